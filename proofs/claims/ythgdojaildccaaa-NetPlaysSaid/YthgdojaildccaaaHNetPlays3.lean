/-
  NetPlays' round, case by case (3): a net in which anything happens has just the packets that were sent and not taken, in order, and one more of each that is there twice.
-/
import Derived.Test.YthgdojaildccaaaHNetPlays1
namespace Go.Proofs.Ythgdojaildccaaa.Pure
open Go.RowKit Go.Proofs.Ythgdojaildccaaa.M Go.Proofs.YthgdojaildccaaaW.PrintWords Go.Proofs.YthgdojaildccaaaW.PrintLast Go.Proofs.YthgdojaildccaaaW.PrintMore
set_option linter.unusedVariables false
set_option linter.unusedSimpArgs false
set_option maxHeartbeats 16000000 in
set_option maxRecDepth 100000 in
theorem np_0in {w wr : World} {l0 : List S28} {c0 g3 i c4 c2 : Nat} {ms ps : List S37} {A4 A2 : Option Addr} {ad0 : Addr} {ok_ oi : Int} {u2 u6 u7 u8 u9 u10 u11 u12 u24 u25 u26 u27 u28 u29 u30 u31 u32 u33 u34 u35 u36 u37 u38 u39 u40 u41 u42 u43 u44 u45 u46 u47 u48 u49 u50 u51 u52 u53 u54 u55 u56 u57 u58 u59 u60 u61 u62 u63 u64 u65 u66 u67 u68 u69 u70 u71 u72 u73 u74 u75 u76 u77 u78 u79 u80 u81 u82 u83 u84 u85 u86 u87 u88 u89 u90 u91 u92 u93 u94 u95 u96 u97 u98 u99 u100 u101 u102 u103 u104 u105 u106 u107 u108 u109 u110 u111 u112 u113 u114 u115 u116 u117 u118 u119 u120 u121 u122 u123 u124 u125 u126 u127 u128 u129 u130 u131 u132 u133 u134 u135 u136 u137 u138 u139 u140 u141 u142 u143 u144 u145 u146 u147 u148 u149 u150 u151 u152 u153 u154 u155 u156 u157 u158 u159 u160 u161 u162 u163 u164 u165 u166 : Value} {K K1 : Act → World → Prop}
    (hi : i < l0.length) (h60 : l0.length ≤ 60) (hl : ms.length ≤ 50 * i) (n4 : MN w wr g3 (.slice A4 ms.length c4) ms ms (fun _ => True))
    (y0 : wr.cell? (ad0.add (i * 3)) = some (.int .i64 ok_)) (y1 : wr.cell? ⟨(ad0.add (i * 3)).block, (ad0.add (i * 3)).off + 1, none⟩ = some (.int .i64 oi)) (y2 : wr.cell? ⟨(ad0.add (i * 3)).block, (ad0.add (i * 3)).off + 2, none⟩ = some (.slice A2 ps.length c2))
    (l2 : ps.length ≤ c2) (g2 : Kd.C k37 w A2 ps.length ps) (hfp : ∀ y ∈ ps, Fit y) (hk0 : ok_ = 0) (hth : 0 ≤ oi) (hlt : oi < (ms.length : Int))
    (hK : ∀ (u2 u6 u7 u8 u9 u10 u11 u12 u24 u25 u26 u27 u28 u29 u30 u31 u32 u33 u34 u35 u36 u37 u38 u39 u40 u41 u42 u43 u44 u45 u46 u47 u48 u49 u50 u51 u52 u53 u54 u55 u56 u57 u58 u59 u60 u61 u62 u63 u64 u65 u66 u67 u68 u69 u70 u71 u72 u73 u74 u75 u76 u77 u78 u79 u80 u81 u82 u83 u84 u85 u86 u87 u88 u89 u90 u91 u92 u93 u94 u95 u96 u97 u98 u99 u100 u101 u102 u103 u104 u105 u106 u107 u108 u109 u110 u111 u112 u113 u114 u115 u116 u117 u118 u119 u120 u121 u122 u123 u124 u125 u126 u127 u128 u129 u130 u131 u132 u133 u134 u135 u136 u137 u138 u139 u140 u141 u142 u143 u144 u145 u146 u147 u148 u149 u150 u151 u152 u153 u154 u155 u156 u157 u158 u159 u160 u161 u162 u163 u164 u165 u166 v4 v23 : Value) (w' : World) (ms' : List S37), v23 = .int .i64 ((i + 1 : Nat) : Int) → ms'.length ≤ 50 * (i + 1) → MN w w' g3 v4 ms' ms' (fun _ => True) → K ⟨#[.slice (some ad0) l0.length c0, undef, u2, .pointer (some ⟨g3, 0, none⟩), v4, undef, u6, u7, u8, u9, u10, u11, u12, undef, undef, undef, .bool true, .bool false, .slice (some ad0) l0.length c0, .int .i64 (l0.length : Int), .bool false, .slice (some ad0) l0.length c0, .int .i64 (l0.length : Int), v23, u24, u25, u26, u27, u28, u29, u30, u31, u32, u33, u34, u35, u36, u37, u38, u39, u40, u41, u42, u43, u44, u45, u46, u47, u48, u49, u50, u51, u52, u53, u54, u55, u56, u57, u58, u59, u60, u61, u62, u63, u64, u65, u66, u67, u68, u69, u70, u71, u72, u73, u74, u75, u76, u77, u78, u79, u80, u81, u82, u83, u84, u85, u86, u87, u88, u89, u90, u91, u92, u93, u94, u95, u96, u97, u98, u99, u100, u101, u102, u103, u104, u105, u106, u107, u108, u109, u110, u111, u112, u113, u114, u115, u116, u117, u118, u119, u120, u121, u122, u123, u124, u125, u126, u127, u128, u129, u130, u131, u132, u133, u134, u135, u136, u137, u138, u139, u140, u141, u142, u143, u144, u145, u146, u147, u148, u149, u150, u151, u152, u153, u154, u155, u156, u157, u158, u159, u160, u161, u162, u163, u164, u165, u166, undef, undef, undef, undef, undef, undef, undef, undef, undef, undef, undef, undef, undef, undef, undef, undef, undef, undef, undef, undef, undef, undef], []⟩ w') :
    Code.wp Try.prog npBody (Exit.then K (Exit.inBlock 0 (Exit.then K1 (bodyPost Try.prog Try.f3 (fun e w' => e = .returned (.bool true) ∧ Below w.heap.size w w'))))) ⟨#[.slice (some ad0) l0.length c0, undef, u2, .pointer (some ⟨g3, 0, none⟩), .slice A4 ms.length c4, undef, u6, u7, u8, u9, u10, u11, u12, undef, undef, undef, .bool true, .bool false, .slice (some ad0) l0.length c0, .int .i64 (l0.length : Int), .bool false, .slice (some ad0) l0.length c0, .int .i64 (l0.length : Int), .int .i64 (i : Int), u24, u25, u26, u27, u28, u29, u30, u31, u32, u33, u34, u35, u36, u37, u38, u39, u40, u41, u42, u43, u44, u45, u46, u47, u48, u49, u50, u51, u52, u53, u54, u55, u56, u57, u58, u59, u60, u61, u62, u63, u64, u65, u66, u67, u68, u69, u70, u71, u72, u73, u74, u75, u76, u77, u78, u79, u80, u81, u82, u83, u84, u85, u86, u87, u88, u89, u90, u91, u92, u93, u94, u95, u96, u97, u98, u99, u100, u101, u102, u103, u104, u105, u106, u107, u108, u109, u110, u111, u112, u113, u114, u115, u116, u117, u118, u119, u120, u121, u122, u123, u124, u125, u126, u127, u128, u129, u130, u131, u132, u133, u134, u135, u136, u137, u138, u139, u140, u141, u142, u143, u144, u145, u146, u147, u148, u149, u150, u151, u152, u153, u154, u155, u156, u157, u158, u159, u160, u161, u162, u163, u164, u165, u166, undef, undef, undef, undef, undef, undef, undef, undef, undef, undef, undef, undef, undef, undef, undef, undef, undef, undef, undef, undef, undef, undef], []⟩ wr := by
  have d1 : decide ((i : Int) < (l0.length : Int)) = true := decide_eq_true (by omega)
  have d2 : decide (i < l0.length) = true := decide_eq_true hi
  have d3 : (i < l0.length) = True := eq_true hi
  have hi0 : (0 : Int) ≤ (i : Int) := by omega
  have hi1 : (i : Int) < (l0.length : Int) := by omega
  have G2 := Aside0.mk g2; have FP := Aside0.mk hfp; have L2 := Aside0.mk l2; have HL := Aside0.mk hl; have N4 := Aside0.mk n4; have HK := Aside0.mk hK
  have b2 : wrap64 ((i : Int) + 1) = ((i + 1 : Nat) : Int) := by unfold wrap64; omega
  have q1 := eq_true hi0; have q2 := eq_true hi1; have q3 : decide ((0 : Int) ≤ (i : Int)) = true := decide_eq_true hi0
  have HLM := Aside0.mk (show ms.length ≤ 3000 by omega)
  have N5_ := Aside0.mk N4.out.bnd; have ZW := Aside0.mk (Nat.le_refl wr.heap.size)
  clear hi h60 hl n4 g2 hfp l2 hK hi0 hi1
  conv => arg 2; whnf
  have t0 : (ok_ == 0) = true := by rw [hk0]; decide
  have t1 : (ok_ == 1) = false := by rw [hk0]; decide
  have t2 : (ok_ == 2) = false := by rw [hk0]; decide
  have t3 : (ok_ == 3) = false := by rw [hk0]; decide
  clear hk0
  obtain ⟨j, rfl⟩ := Int.eq_ofNat_of_zero_le hth
  have HJ := Aside0.mk (show j < ms.length by omega)
  have th1 : decide ((j : Int) ≥ 0) = true := decide_eq_true hth
  have th2 : decide (0 ≤ (j : Int)) = true := decide_eq_true hth
  have th3 : decide ((j : Int) < (ms.length : Int)) = true := decide_eq_true hlt
  have th4 : decide (j < ms.length) = true := decide_eq_true HJ.out
  have hj0 : (0 : Int) ≤ (j : Int) := hth
  have hj1 : (j : Int) < (ms.length : Int) := hlt
  have j1 := eq_true hj0; have j2 := eq_true hj1
  clear hth hlt
  by_cases h50 : ps.length > 50
  · have e1 : decide (50 < (ps.length : Int)) = true := decide_eq_true (by omega)
    have e2 : decide (50 < ps.length) = true := decide_eq_true h50
    have e3 : (50 < ps.length) = True := eq_true h50
    clear h50
    go_wp2_with (first | ((with_reducible refine gate_dst (N := 6) rfl ?_); refine box_event ?hg (N := 6) ?hd (cs := #[.int .i64 0, .int .i64 0, .slice none 0 0]) (t := 28) ?hr ?_; (case hd => rfl); (case hg => rfl); (case hr => first | (go_simp; done) | (go_simp; rfl)); intro g6 hg w5m hbox hb; have ZB := Aside0.mk hb; have ZX := Aside0.mk hbox; have X5g := Aside0.mk (show wr.heap.size ≤ g6 from by rw [hg]; exact Nat.le_refl _); have o_zc0 : w5m.cell? ⟨g6, 0, none⟩ = some (.int .i64 0) := (blk_cell ZX.out 0).trans rfl; have o_zf0 := blk_frozen ZX.out 0; have o_zc1 : w5m.cell? ⟨g6, 1, none⟩ = some (.int .i64 0) := (blk_cell ZX.out 1).trans rfl; have o_zf1 := blk_frozen ZX.out 1; have o_zc2 : w5m.cell? ⟨g6, 2, none⟩ = some (.slice none 0 0) := (blk_cell ZX.out 2).trans rfl; have o_zf2 := blk_frozen ZX.out 2; clear hb hg hbox) | ((with_reducible refine gate_dst (N := 27) rfl ?_); have NB5 := Aside0.mk (below_setB (below_setB (below_setB ZB.out (p := ⟨g6, 0, none⟩) X5g.out (.int .i64 ok_)) (p := ⟨g6, 1, none⟩) X5g.out (.int .i64 (j : Int))) (p := ⟨g6, 2, none⟩) X5g.out (.slice A2 ps.length c2)); have X5 := Aside0.mk (blk_put (blk_put (blk_put ZX.out 0 (.int .i64 ok_) (cs' := #[.int .i64 ok_, .int .i64 0, .slice none 0 0]) rfl) 1 (.int .i64 (j : Int)) (cs' := #[.int .i64 ok_, .int .i64 (j : Int), .slice none 0 0]) rfl) 2 (.slice A2 ps.length c2) (cs' := #[.int .i64 ok_, .int .i64 (j : Int), .slice A2 ps.length c2]) rfl); clear ZB ZX o_zc0 o_zf0 o_zc1 o_zf1 o_zc2 o_zf2; generalize (((w5m.setCell ⟨g6, 0, none⟩ (.int .i64 ok_)).setCell ⟨g6, 1, none⟩ (.int .i64 (j : Int))).setCell ⟨g6, 2, none⟩ (.slice A2 ps.length c2)) = w5 at NB5 X5 ⊢; have N5 := Aside0.mk (N5_.out.below NB5.out); have o_c0 : w5.cell? ⟨g6, 0, none⟩ = some (.int .i64 ok_) := (blk_cell X5.out 0).trans rfl; have o_f0 := blk_frozen X5.out 0; have o_c1 : w5.cell? ⟨g6, 1, none⟩ = some (.int .i64 (j : Int)) := (blk_cell X5.out 1).trans rfl; have o_f1 := blk_frozen X5.out 1; have o_c2 : w5.cell? ⟨g6, 2, none⟩ = some (.slice A2 ps.length c2) := (blk_cell X5.out 2).trans rfl; have o_f2 := blk_frozen X5.out 2))
    go_ret
    exact ⟨rfl, N5.out.bel⟩
  have e1 : decide (50 < (ps.length : Int)) = false := decide_eq_false (by omega)
  have e2 : decide (50 < ps.length) = false := decide_eq_false h50
  have e3 : (50 < ps.length) = False := eq_false h50
  have H50 := Aside0.mk (show ps.length ≤ 50 by omega)
  clear h50
  go_wp2_with (first | ((with_reducible refine gate_dst (N := 6) rfl ?_); refine box_event ?hg (N := 6) ?hd (cs := #[.int .i64 0, .int .i64 0, .slice none 0 0]) (t := 28) ?hr ?_; (case hd => rfl); (case hg => rfl); (case hr => first | (go_simp; done) | (go_simp; rfl)); intro g6 hg w5m hbox hb; have ZB := Aside0.mk hb; have ZX := Aside0.mk hbox; have X5g := Aside0.mk (show wr.heap.size ≤ g6 from by rw [hg]; exact Nat.le_refl _); have o_zc0 : w5m.cell? ⟨g6, 0, none⟩ = some (.int .i64 0) := (blk_cell ZX.out 0).trans rfl; have o_zf0 := blk_frozen ZX.out 0; have o_zc1 : w5m.cell? ⟨g6, 1, none⟩ = some (.int .i64 0) := (blk_cell ZX.out 1).trans rfl; have o_zf1 := blk_frozen ZX.out 1; have o_zc2 : w5m.cell? ⟨g6, 2, none⟩ = some (.slice none 0 0) := (blk_cell ZX.out 2).trans rfl; have o_zf2 := blk_frozen ZX.out 2; clear hb hg hbox) | ((with_reducible refine gate_dst (N := 27) rfl ?_); have NB5 := Aside0.mk (below_setB (below_setB (below_setB ZB.out (p := ⟨g6, 0, none⟩) X5g.out (.int .i64 ok_)) (p := ⟨g6, 1, none⟩) X5g.out (.int .i64 (j : Int))) (p := ⟨g6, 2, none⟩) X5g.out (.slice A2 ps.length c2)); have X5 := Aside0.mk (blk_put (blk_put (blk_put ZX.out 0 (.int .i64 ok_) (cs' := #[.int .i64 ok_, .int .i64 0, .slice none 0 0]) rfl) 1 (.int .i64 (j : Int)) (cs' := #[.int .i64 ok_, .int .i64 (j : Int), .slice none 0 0]) rfl) 2 (.slice A2 ps.length c2) (cs' := #[.int .i64 ok_, .int .i64 (j : Int), .slice A2 ps.length c2]) rfl); clear ZB ZX o_zc0 o_zf0 o_zc1 o_zf1 o_zc2 o_zf2; generalize (((w5m.setCell ⟨g6, 0, none⟩ (.int .i64 ok_)).setCell ⟨g6, 1, none⟩ (.int .i64 (j : Int))).setCell ⟨g6, 2, none⟩ (.slice A2 ps.length c2)) = w5 at NB5 X5 ⊢; have N5 := Aside0.mk (N5_.out.below NB5.out); have o_c0 : w5.cell? ⟨g6, 0, none⟩ = some (.int .i64 ok_) := (blk_cell X5.out 0).trans rfl; have o_f0 := blk_frozen X5.out 0; have o_c1 : w5.cell? ⟨g6, 1, none⟩ = some (.int .i64 (j : Int)) := (blk_cell X5.out 1).trans rfl; have o_f1 := blk_frozen X5.out 1; have o_c2 : w5.cell? ⟨g6, 2, none⟩ = some (.slice A2 ps.length c2) := (blk_cell X5.out 2).trans rfl; have o_f2 := blk_frozen X5.out 2))
  refine start_ (n := 7) (S := fun w' => w'.cell? ⟨g6, 2, none⟩ = some (.slice A2 ps.length c2)) (ds := []) #[false, false, false, false, false, false, false] (by kernel_rfl) rfl rfl ((blk_cell (blk_drew X5.out) 2).trans rfl) (fun hHeld => ?_)
  refine pure_ (i := 0) (N := some 45) (v := ?_) (a' := ?_) #[true, false, false, false, false, false, false] rfl rfl (by kernel_rfl) (fun _ _ _ h => h) (Or.inl ⟨by rfl, ?_⟩) ?_ ?_
  rotate_left
  · intro w'
    go_simp
    with_reducible rfl
  rotate_left
  · simp only [Act.put, List.setIfInBounds_toArray, List.set_cons_zero, List.set_cons_succ, i64_w, i32_w]
    rfl
  refine pure_ (i := 3) (N := some 48) (v := ?_) (a' := ?_) #[true, false, false, true, false, false, false] rfl rfl (by kernel_rfl) (fun _ _ _ h => h) (Or.inl ⟨by rfl, ?_⟩) ?_ ?_
  rotate_left
  · intro w'
    go_simp
    with_reducible rfl
  rotate_left
  · simp only [Act.put, List.setIfInBounds_toArray, List.set_cons_zero, List.set_cons_succ, i64_w, i32_w]
    rfl
  refine take_ (i := 1) (N := some 46) (v := ?_) (a' := ?_) #[true, true, false, true, false, false, false] rfl rfl (by kernel_rfl) (fun _ _ _ h => h) (Or.inl ⟨by rfl, ?_⟩) hHeld ?_ ?_
  rotate_left
  · intro w' s0
    go_simp
    with_reducible rfl
  rotate_left
  · simp only [Act.put, List.setIfInBounds_toArray, List.set_cons_zero, List.set_cons_succ, i64_w, i32_w]
    rfl
  refine take_ (i := 4) (N := some 49) (v := ?_) (a' := ?_) #[true, true, false, true, true, false, false] rfl rfl (by kernel_rfl) (fun _ _ _ h => h) (Or.inl ⟨by rfl, ?_⟩) hHeld ?_ ?_
  rotate_left
  · intro w' s0
    go_simp
    with_reducible rfl
  rotate_left
  · simp only [Act.put, List.setIfInBounds_toArray, List.set_cons_zero, List.set_cons_succ, i64_w, i32_w]
    rfl
  refine pure_ (i := 5) (N := some 50) (v := ?_) (a' := ?_) #[true, true, false, true, true, true, false] rfl rfl (by kernel_rfl) (fun _ _ _ h => h) (Or.inl ⟨by rfl, ?_⟩) ?_ ?_
  rotate_left
  · intro w'
    go_simp
    with_reducible rfl
  rotate_left
  · simp only [Act.put, List.setIfInBounds_toArray, List.set_cons_zero, List.set_cons_succ, i64_w, i32_w]
    rfl
  refine one_ (i := 2) (N := some 47) #[true, true, true, true, true, true, false] rfl rfl (by kernel_rfl) (by decide) (fun K hK => ?_)
  refine goes_ Try.func12 (by kernel_rfl) rfl #[.pointer (some ⟨g3, 0, none⟩), .slice A2 ps.length c2] (by rfl) rfl rfl (by simp only [List.map_toArray, List.map_cons, List.map_nil]; rfl) ?_
  with_reducible refine (net_SendAll (ps := ps) rfl N5.out.drew.net N5.out.drew.le (fun w_ hb hk => Kd.C_below G2.out (N5.out.drew.bel.trans hb)) L2.out FP.out (by have := HLM.out; have := H50.out; omega)).mono ?_
  rintro x w7 ⟨rfl, hI, hb, hk⟩
  refine ⟨_, rfl, ?_⟩
  have N7 := Aside0.mk (N5.out.drew.op hI hb hk)
  have X6 := Aside0.mk ((hk.2 g6 (blk_lt (blk_drew X5.out)) (fun q => absurd q.2 (Nat.not_lt.mpr X5g.out))).trans (blk_drew X5.out))
  clear hI hb hk
  refine hK.out _ _ ((blk_cell X6.out 2).trans rfl) (fun hHeld => ?_)
  clear hK K
  refine norm_ (a' := ?_) ?_ ?_
  rotate_left
  · show Act.put _ (some 47) _ = _
    simp only [Act.put, List.setIfInBounds_toArray, List.set_cons_zero, List.set_cons_succ, i64_w, i32_w]
    rfl
  refine pure_ (i := 6) (N := some 51) (v := ?_) (a' := ?_) #[true, true, true, true, true, true, true] rfl rfl (by kernel_rfl) (fun _ _ _ h => h) (Or.inl ⟨by rfl, ?_⟩) ?_ ?_
  rotate_left
  · intro w'
    go_simp
    with_reducible rfl
  rotate_left
  · simp only [Act.put, List.setIfInBounds_toArray, List.set_cons_zero, List.set_cons_succ, i64_w, i32_w]
    rfl
  refine done_ (by kernel_rfl) ?_
  have z1 : ((ps.length : Int) != (ps.length : Int)) = false := bne_self_eq_false _
  have z2 : (ps.length != ps.length) = false := bne_self_eq_false _
  have o_c0 : w7.cell? ⟨g6, 0, none⟩ = some (.int .i64 ok_) := (blk_cell X6.out 0).trans rfl; have o_f0 := blk_frozen X6.out 0; have o_c1 : w7.cell? ⟨g6, 1, none⟩ = some (.int .i64 (j : Int)) := (blk_cell X6.out 1).trans rfl; have o_f1 := blk_frozen X6.out 1; have o_c2 : w7.cell? ⟨g6, 2, none⟩ = some (.slice A2 ps.length c2) := (blk_cell X6.out 2).trans rfl; have o_f2 := blk_frozen X6.out 2
  go_wp2_with (first | ((with_reducible refine gate_builtin (b := .append) (xs := #[.tmp 52, .tmp 54]) rfl ?_); at_builtin; refine Kd.R_append_rows (lent w k37) (Rr := k37.K w) (w0 := w) w.heap.size rfl (.tmp 52) (.tmp 54) 24 37 (.agg #[.int .i64 0, .int .i64 0, .int .i64 0, .int .i64 0, .int .i64 0, .int .i64 0, .int .i64 0, .int .i64 0, .int .i64 0, .int .i64 0, .int .i64 0, .int .i64 0, .bool false, .slice none 0 0, .slice none 0 0]) 152 rfl Try.underlying24 info37_ rfl (show 0 < 15 by decide) (by omega) _ ms (ps) _ _ _ (fun k => k ≠ g3) (fun _ => False) rfl rfl ?aO ?aR (fun _ _ h => h) (fun _ h => h.elim) ?aF ?aB ?aS ?aL ?_; (case aO => exact N7.out.row); (case aR => exact Kd.C_below (d := lent w k37) G2.out N7.out.bel); (case aF => exact fun k hk e => by subst e; exact absurd N7.out.net.lt (Nat.not_lt.mpr hk)); (case aB => exact N7.out.bel); (case aS => exact N7.out.le); (case aL => have := HLM.out; have := H50.out; omega); intro v_ w8 ho hb hg hat; have N_ := MN.app N7.out ho hb hg hat (fit_app N7.out.fit FP.out); obtain ⟨A20, c20, e20⟩ := Kd.R_slice ho; subst e20; have N8 := Aside0.mk N_; clear N_ ho hb hg hat))
  have z3 : (((ms ++ ps).length : Int) != ((ms ++ ps).length : Int)) = false := bne_self_eq_false _
  clear d1 d2 d3 q1 q2 q3 y0 y1 y2 e1 e2 e3
  refine (net_Len N8.out.net).mono ?_; rintro x w90 ⟨rfl, hb⟩; have N90 := Aside0.mk (N8.out.below hb); clear hb
  go_wp2_with fail
  exact HK.out _ _ _ _ _ _ _ _ _ _ _ _ _ _ _ _ _ _ _ _ _ _ _ _ _ _ _ _ _ _ _ _ _ _ _ _ _ _ _ _ _ _ _ _ _ _ _ _ _ _ _ _ _ _ _ _ _ _ _ _ _ _ _ _ _ _ _ _ _ _ _ _ _ _ _ _ _ _ _ _ _ _ _ _ _ _ _ _ _ _ _ _ _ _ _ _ _ _ _ _ _ _ _ _ _ _ _ _ _ _ _ _ _ _ _ _ _ _ _ _ _ _ _ _ _ _ _ _ _ _ _ _ _ _ _ _ _ _ _ _ _ _ _ _ _ _ _ _ _ _ _ _ _ w90 (ms ++ ps) (by first | rw [b2] | rfl) (by rw [List.length_append]; have := HL.out; have := H50.out; omega) (by first | exact N90.out.any | (have h := N90.out.any; simp only [List.length_append, List.length_singleton] at h ⊢; exact h))
set_option maxHeartbeats 16000000 in
set_option maxRecDepth 100000 in
theorem np_1in {w wr : World} {l0 : List S28} {c0 g3 i c4 c2 : Nat} {ms ps : List S37} {A4 A2 : Option Addr} {ad0 : Addr} {ok_ oi : Int} {u2 u6 u7 u8 u9 u10 u11 u12 u24 u25 u26 u27 u28 u29 u30 u31 u32 u33 u34 u35 u36 u37 u38 u39 u40 u41 u42 u43 u44 u45 u46 u47 u48 u49 u50 u51 u52 u53 u54 u55 u56 u57 u58 u59 u60 u61 u62 u63 u64 u65 u66 u67 u68 u69 u70 u71 u72 u73 u74 u75 u76 u77 u78 u79 u80 u81 u82 u83 u84 u85 u86 u87 u88 u89 u90 u91 u92 u93 u94 u95 u96 u97 u98 u99 u100 u101 u102 u103 u104 u105 u106 u107 u108 u109 u110 u111 u112 u113 u114 u115 u116 u117 u118 u119 u120 u121 u122 u123 u124 u125 u126 u127 u128 u129 u130 u131 u132 u133 u134 u135 u136 u137 u138 u139 u140 u141 u142 u143 u144 u145 u146 u147 u148 u149 u150 u151 u152 u153 u154 u155 u156 u157 u158 u159 u160 u161 u162 u163 u164 u165 u166 : Value} {K K1 : Act → World → Prop}
    (hi : i < l0.length) (h60 : l0.length ≤ 60) (hl : ms.length ≤ 50 * i) (n4 : MN w wr g3 (.slice A4 ms.length c4) ms ms (fun _ => True))
    (y0 : wr.cell? (ad0.add (i * 3)) = some (.int .i64 ok_)) (y1 : wr.cell? ⟨(ad0.add (i * 3)).block, (ad0.add (i * 3)).off + 1, none⟩ = some (.int .i64 oi)) (y2 : wr.cell? ⟨(ad0.add (i * 3)).block, (ad0.add (i * 3)).off + 2, none⟩ = some (.slice A2 ps.length c2))
    (l2 : ps.length ≤ c2) (g2 : Kd.C k37 w A2 ps.length ps) (hfp : ∀ y ∈ ps, Fit y) (hk0 : ¬ok_ = 0) (hk1 : ok_ = 1) (hth : 0 ≤ oi) (hlt : oi < (ms.length : Int))
    (hK : ∀ (u2 u6 u7 u8 u9 u10 u11 u12 u24 u25 u26 u27 u28 u29 u30 u31 u32 u33 u34 u35 u36 u37 u38 u39 u40 u41 u42 u43 u44 u45 u46 u47 u48 u49 u50 u51 u52 u53 u54 u55 u56 u57 u58 u59 u60 u61 u62 u63 u64 u65 u66 u67 u68 u69 u70 u71 u72 u73 u74 u75 u76 u77 u78 u79 u80 u81 u82 u83 u84 u85 u86 u87 u88 u89 u90 u91 u92 u93 u94 u95 u96 u97 u98 u99 u100 u101 u102 u103 u104 u105 u106 u107 u108 u109 u110 u111 u112 u113 u114 u115 u116 u117 u118 u119 u120 u121 u122 u123 u124 u125 u126 u127 u128 u129 u130 u131 u132 u133 u134 u135 u136 u137 u138 u139 u140 u141 u142 u143 u144 u145 u146 u147 u148 u149 u150 u151 u152 u153 u154 u155 u156 u157 u158 u159 u160 u161 u162 u163 u164 u165 u166 v4 v23 : Value) (w' : World) (ms' : List S37), v23 = .int .i64 ((i + 1 : Nat) : Int) → ms'.length ≤ 50 * (i + 1) → MN w w' g3 v4 ms' ms' (fun _ => True) → K ⟨#[.slice (some ad0) l0.length c0, undef, u2, .pointer (some ⟨g3, 0, none⟩), v4, undef, u6, u7, u8, u9, u10, u11, u12, undef, undef, undef, .bool true, .bool false, .slice (some ad0) l0.length c0, .int .i64 (l0.length : Int), .bool false, .slice (some ad0) l0.length c0, .int .i64 (l0.length : Int), v23, u24, u25, u26, u27, u28, u29, u30, u31, u32, u33, u34, u35, u36, u37, u38, u39, u40, u41, u42, u43, u44, u45, u46, u47, u48, u49, u50, u51, u52, u53, u54, u55, u56, u57, u58, u59, u60, u61, u62, u63, u64, u65, u66, u67, u68, u69, u70, u71, u72, u73, u74, u75, u76, u77, u78, u79, u80, u81, u82, u83, u84, u85, u86, u87, u88, u89, u90, u91, u92, u93, u94, u95, u96, u97, u98, u99, u100, u101, u102, u103, u104, u105, u106, u107, u108, u109, u110, u111, u112, u113, u114, u115, u116, u117, u118, u119, u120, u121, u122, u123, u124, u125, u126, u127, u128, u129, u130, u131, u132, u133, u134, u135, u136, u137, u138, u139, u140, u141, u142, u143, u144, u145, u146, u147, u148, u149, u150, u151, u152, u153, u154, u155, u156, u157, u158, u159, u160, u161, u162, u163, u164, u165, u166, undef, undef, undef, undef, undef, undef, undef, undef, undef, undef, undef, undef, undef, undef, undef, undef, undef, undef, undef, undef, undef, undef], []⟩ w') :
    Code.wp Try.prog npBody (Exit.then K (Exit.inBlock 0 (Exit.then K1 (bodyPost Try.prog Try.f3 (fun e w' => e = .returned (.bool true) ∧ Below w.heap.size w w'))))) ⟨#[.slice (some ad0) l0.length c0, undef, u2, .pointer (some ⟨g3, 0, none⟩), .slice A4 ms.length c4, undef, u6, u7, u8, u9, u10, u11, u12, undef, undef, undef, .bool true, .bool false, .slice (some ad0) l0.length c0, .int .i64 (l0.length : Int), .bool false, .slice (some ad0) l0.length c0, .int .i64 (l0.length : Int), .int .i64 (i : Int), u24, u25, u26, u27, u28, u29, u30, u31, u32, u33, u34, u35, u36, u37, u38, u39, u40, u41, u42, u43, u44, u45, u46, u47, u48, u49, u50, u51, u52, u53, u54, u55, u56, u57, u58, u59, u60, u61, u62, u63, u64, u65, u66, u67, u68, u69, u70, u71, u72, u73, u74, u75, u76, u77, u78, u79, u80, u81, u82, u83, u84, u85, u86, u87, u88, u89, u90, u91, u92, u93, u94, u95, u96, u97, u98, u99, u100, u101, u102, u103, u104, u105, u106, u107, u108, u109, u110, u111, u112, u113, u114, u115, u116, u117, u118, u119, u120, u121, u122, u123, u124, u125, u126, u127, u128, u129, u130, u131, u132, u133, u134, u135, u136, u137, u138, u139, u140, u141, u142, u143, u144, u145, u146, u147, u148, u149, u150, u151, u152, u153, u154, u155, u156, u157, u158, u159, u160, u161, u162, u163, u164, u165, u166, undef, undef, undef, undef, undef, undef, undef, undef, undef, undef, undef, undef, undef, undef, undef, undef, undef, undef, undef, undef, undef, undef], []⟩ wr := by
  have d1 : decide ((i : Int) < (l0.length : Int)) = true := decide_eq_true (by omega)
  have d2 : decide (i < l0.length) = true := decide_eq_true hi
  have d3 : (i < l0.length) = True := eq_true hi
  have hi0 : (0 : Int) ≤ (i : Int) := by omega
  have hi1 : (i : Int) < (l0.length : Int) := by omega
  have G2 := Aside0.mk g2; have FP := Aside0.mk hfp; have L2 := Aside0.mk l2; have HL := Aside0.mk hl; have N4 := Aside0.mk n4; have HK := Aside0.mk hK
  have b2 : wrap64 ((i : Int) + 1) = ((i + 1 : Nat) : Int) := by unfold wrap64; omega
  have q1 := eq_true hi0; have q2 := eq_true hi1; have q3 : decide ((0 : Int) ≤ (i : Int)) = true := decide_eq_true hi0
  have HLM := Aside0.mk (show ms.length ≤ 3000 by omega)
  have N5_ := Aside0.mk N4.out.bnd; have ZW := Aside0.mk (Nat.le_refl wr.heap.size)
  clear hi h60 hl n4 g2 hfp l2 hK hi0 hi1
  conv => arg 2; whnf
  have t0 : (ok_ == 0) = false := by rw [hk1]; decide
  have t1 : (ok_ == 1) = true := by rw [hk1]; decide
  have t2 : (ok_ == 2) = false := by rw [hk1]; decide
  have t3 : (ok_ == 3) = false := by rw [hk1]; decide
  clear hk0 hk1
  obtain ⟨j, rfl⟩ := Int.eq_ofNat_of_zero_le hth
  have HJ := Aside0.mk (show j < ms.length by omega)
  have th1 : decide ((j : Int) ≥ 0) = true := decide_eq_true hth
  have th2 : decide (0 ≤ (j : Int)) = true := decide_eq_true hth
  have th3 : decide ((j : Int) < (ms.length : Int)) = true := decide_eq_true hlt
  have th4 : decide (j < ms.length) = true := decide_eq_true HJ.out
  have hj0 : (0 : Int) ≤ (j : Int) := hth
  have hj1 : (j : Int) < (ms.length : Int) := hlt
  have j1 := eq_true hj0; have j2 := eq_true hj1
  clear hth hlt
  go_wp2_with (first | ((with_reducible refine gate_dst (N := 6) rfl ?_); refine box_event ?hg (N := 6) ?hd (cs := #[.int .i64 0, .int .i64 0, .slice none 0 0]) (t := 28) ?hr ?_; (case hd => rfl); (case hg => rfl); (case hr => first | (go_simp; done) | (go_simp; rfl)); intro g6 hg w5m hbox hb; have ZB := Aside0.mk hb; have ZX := Aside0.mk hbox; have X5g := Aside0.mk (show wr.heap.size ≤ g6 from by rw [hg]; exact Nat.le_refl _); have o_zc0 : w5m.cell? ⟨g6, 0, none⟩ = some (.int .i64 0) := (blk_cell ZX.out 0).trans rfl; have o_zf0 := blk_frozen ZX.out 0; have o_zc1 : w5m.cell? ⟨g6, 1, none⟩ = some (.int .i64 0) := (blk_cell ZX.out 1).trans rfl; have o_zf1 := blk_frozen ZX.out 1; have o_zc2 : w5m.cell? ⟨g6, 2, none⟩ = some (.slice none 0 0) := (blk_cell ZX.out 2).trans rfl; have o_zf2 := blk_frozen ZX.out 2; clear hb hg hbox) | ((with_reducible refine gate_dst (N := 27) rfl ?_); have NB5 := Aside0.mk (below_setB (below_setB (below_setB ZB.out (p := ⟨g6, 0, none⟩) X5g.out (.int .i64 ok_)) (p := ⟨g6, 1, none⟩) X5g.out (.int .i64 (j : Int))) (p := ⟨g6, 2, none⟩) X5g.out (.slice A2 ps.length c2)); have X5 := Aside0.mk (blk_put (blk_put (blk_put ZX.out 0 (.int .i64 ok_) (cs' := #[.int .i64 ok_, .int .i64 0, .slice none 0 0]) rfl) 1 (.int .i64 (j : Int)) (cs' := #[.int .i64 ok_, .int .i64 (j : Int), .slice none 0 0]) rfl) 2 (.slice A2 ps.length c2) (cs' := #[.int .i64 ok_, .int .i64 (j : Int), .slice A2 ps.length c2]) rfl); clear ZB ZX o_zc0 o_zf0 o_zc1 o_zf1 o_zc2 o_zf2; generalize (((w5m.setCell ⟨g6, 0, none⟩ (.int .i64 ok_)).setCell ⟨g6, 1, none⟩ (.int .i64 (j : Int))).setCell ⟨g6, 2, none⟩ (.slice A2 ps.length c2)) = w5 at NB5 X5 ⊢; have N5 := Aside0.mk (N5_.out.below NB5.out); have o_c0 : w5.cell? ⟨g6, 0, none⟩ = some (.int .i64 ok_) := (blk_cell X5.out 0).trans rfl; have o_f0 := blk_frozen X5.out 0; have o_c1 : w5.cell? ⟨g6, 1, none⟩ = some (.int .i64 (j : Int)) := (blk_cell X5.out 1).trans rfl; have o_f1 := blk_frozen X5.out 1; have o_c2 : w5.cell? ⟨g6, 2, none⟩ = some (.slice A2 ps.length c2) := (blk_cell X5.out 2).trans rfl; have o_f2 := blk_frozen X5.out 2))
  clear d1 d2 d3 q1 q2 q3 y0 y1 y2
  refine (net_Take_ok (i := j) N5.out.net HJ.out).mono ?_; rintro x w7 ⟨v, rfl, ⟨v8, v9, rfl, hO, hQ⟩, hI, hb, hk⟩
  have N7 := Aside0.mk (N5.out.op' hI hb hk); have X6 := Aside0.mk ((hk.2 g6 (blk_lt X5.out) (fun q => absurd q.2 (Nat.not_lt.mpr X5g.out))).trans X5.out)
  clear o_c0 o_f0 o_c1 o_f1 o_c2 o_f2
  have hcc := (MN.C N7.out rfl).2
  obtain ⟨ad, A13, c13, A14, c14, ea, x0, x1, x2, x3, x4, x5, x6, x7, x8, x9, x10, x11, x12, x13, x14, l13, g13, l14, g14⟩ := at_L37 hcc.2 (j : Int) hj0 hj1
  subst ea
  obtain ⟨q, hq⟩ : ∃ q, q = rd_T37 ms (j : Int) := ⟨_, rfl⟩
  have hfit := N7.out.fit _ (at_range37 HJ.out)
  rw [← hq] at x0 x1 x2 x3 x4 x5 x6 x7 x8 x9 x10 x11 x12 x13 x14 l13 g13 l14 g14 hfit
  rw [Int.toNat_natCast] at x0 x1 x2 x3 x4 x5 x6 x7 x8 x9 x10 x11 x12 x13 x14
  rw [← hq] at hO hQ ⊢
  have EX := Aside0.mk (show _ from (⟨x0, x1, x2, x3, x4, x5, x6, x7, x8, x9, x10, x11, x12, x13, x14⟩ : (w7.cell? (ad.add (j * 15)) = some (.int .i64 q.f0)) ∧ (w7.cell? ⟨(ad.add (j * 15)).block, (ad.add (j * 15)).off + 1, none⟩ = some (.int .i64 q.f1)) ∧ (w7.cell? ⟨(ad.add (j * 15)).block, (ad.add (j * 15)).off + 2, none⟩ = some (.int .i64 q.f2)) ∧ (w7.cell? ⟨(ad.add (j * 15)).block, (ad.add (j * 15)).off + 3, none⟩ = some (.int .i64 q.f3)) ∧ (w7.cell? ⟨(ad.add (j * 15)).block, (ad.add (j * 15)).off + 4, none⟩ = some (.int .i64 q.f4.f0)) ∧ (w7.cell? ⟨(ad.add (j * 15)).block, (ad.add (j * 15)).off + 5, none⟩ = some (.int .i64 q.f4.f1.f0)) ∧ (w7.cell? ⟨(ad.add (j * 15)).block, (ad.add (j * 15)).off + 6, none⟩ = some (.int .i64 q.f4.f1.f1)) ∧ (w7.cell? ⟨(ad.add (j * 15)).block, (ad.add (j * 15)).off + 7, none⟩ = some (.int .i64 q.f4.f2)) ∧ (w7.cell? ⟨(ad.add (j * 15)).block, (ad.add (j * 15)).off + 8, none⟩ = some (.int .i64 q.f4.f3)) ∧ (w7.cell? ⟨(ad.add (j * 15)).block, (ad.add (j * 15)).off + 9, none⟩ = some (.int .i64 q.f4.f4)) ∧ (w7.cell? ⟨(ad.add (j * 15)).block, (ad.add (j * 15)).off + 10, none⟩ = some (.int .i64 q.f4.f5)) ∧ (w7.cell? ⟨(ad.add (j * 15)).block, (ad.add (j * 15)).off + 11, none⟩ = some (.int .i64 q.f4.f6)) ∧ (w7.cell? ⟨(ad.add (j * 15)).block, (ad.add (j * 15)).off + 12, none⟩ = some (.bool q.f4.f7)) ∧ (w7.cell? ⟨(ad.add (j * 15)).block, (ad.add (j * 15)).off + 13, none⟩ = some (.slice A13 q.f4.f8.length c13)) ∧ (w7.cell? ⟨(ad.add (j * 15)).block, (ad.add (j * 15)).off + 14, none⟩ = some (.slice A14 q.f4.f9.length c14)))); have G13 := Aside0.mk g13; have G14 := Aside0.mk g14; have FT := Aside0.mk hfit; have HQ := Aside0.mk hq; have HCC := Aside0.mk hcc.1
  clear hcc hq hfit g13 g14 l13 l14 x0 x1 x2 x3 x4 x5 x6 x7 x8 x9 x10 x11 x12 x13 x14
  obtain ⟨A8, c8, e8, l8, hC8⟩ := Kd.R_reads hO; obtain ⟨A9, c9, e9, l9, hC9⟩ := Kd.R_reads hQ; subst e8 e9
  have O8 := Aside0.mk hC8; have Q8 := Aside0.mk hC9
  clear hO hQ hb l8 l9 hC8 hC9 hI hk
  dsimp only [pkV]
  go_upto_region 20 with (first | ((with_reducible refine gate_dst (N := 8) rfl ?_); refine box_event ?hg (N := 8) ?hd (cs := #[.int .i64 0, .int .i64 0, .int .i64 0, .int .i64 0, .int .i64 0, .int .i64 0, .int .i64 0, .int .i64 0, .int .i64 0, .int .i64 0, .int .i64 0, .int .i64 0, .bool false, .slice none 0 0, .slice none 0 0]) (t := 37) ?hr ?_; (case hd => rfl); (case hg => rfl); (case hr => first | (go_simp; done) | (go_simp; rfl)); intro g8 hg w8m hbox hb; have ZB := Aside0.mk hb; have ZX := Aside0.mk hbox; have X8g := Aside0.mk (show w7.heap.size ≤ g8 from by rw [hg]; exact Nat.le_refl _); have x_zc0 : w8m.cell? ⟨g8, 0, none⟩ = some (.int .i64 0) := (blk_cell ZX.out 0).trans rfl; have x_zf0 := blk_frozen ZX.out 0; have x_zc1 : w8m.cell? ⟨g8, 1, none⟩ = some (.int .i64 0) := (blk_cell ZX.out 1).trans rfl; have x_zf1 := blk_frozen ZX.out 1; have x_zc2 : w8m.cell? ⟨g8, 2, none⟩ = some (.int .i64 0) := (blk_cell ZX.out 2).trans rfl; have x_zf2 := blk_frozen ZX.out 2; have x_zc3 : w8m.cell? ⟨g8, 3, none⟩ = some (.int .i64 0) := (blk_cell ZX.out 3).trans rfl; have x_zf3 := blk_frozen ZX.out 3; have x_zc4 : w8m.cell? ⟨g8, 4, none⟩ = some (.int .i64 0) := (blk_cell ZX.out 4).trans rfl; have x_zf4 := blk_frozen ZX.out 4; have x_zc5 : w8m.cell? ⟨g8, 5, none⟩ = some (.int .i64 0) := (blk_cell ZX.out 5).trans rfl; have x_zf5 := blk_frozen ZX.out 5; have x_zc6 : w8m.cell? ⟨g8, 6, none⟩ = some (.int .i64 0) := (blk_cell ZX.out 6).trans rfl; have x_zf6 := blk_frozen ZX.out 6; have x_zc7 : w8m.cell? ⟨g8, 7, none⟩ = some (.int .i64 0) := (blk_cell ZX.out 7).trans rfl; have x_zf7 := blk_frozen ZX.out 7; have x_zc8 : w8m.cell? ⟨g8, 8, none⟩ = some (.int .i64 0) := (blk_cell ZX.out 8).trans rfl; have x_zf8 := blk_frozen ZX.out 8; have x_zc9 : w8m.cell? ⟨g8, 9, none⟩ = some (.int .i64 0) := (blk_cell ZX.out 9).trans rfl; have x_zf9 := blk_frozen ZX.out 9; have x_zc10 : w8m.cell? ⟨g8, 10, none⟩ = some (.int .i64 0) := (blk_cell ZX.out 10).trans rfl; have x_zf10 := blk_frozen ZX.out 10; have x_zc11 : w8m.cell? ⟨g8, 11, none⟩ = some (.int .i64 0) := (blk_cell ZX.out 11).trans rfl; have x_zf11 := blk_frozen ZX.out 11; have x_zc12 : w8m.cell? ⟨g8, 12, none⟩ = some (.bool false) := (blk_cell ZX.out 12).trans rfl; have x_zf12 := blk_frozen ZX.out 12; have x_zc13 : w8m.cell? ⟨g8, 13, none⟩ = some (.slice none 0 0) := (blk_cell ZX.out 13).trans rfl; have x_zf13 := blk_frozen ZX.out 13; have x_zc14 : w8m.cell? ⟨g8, 14, none⟩ = some (.slice none 0 0) := (blk_cell ZX.out 14).trans rfl; have x_zf14 := blk_frozen ZX.out 14; clear hb hg hbox))
  have NB8 := Aside0.mk (below_setB (below_setB (below_setB (below_setB (below_setB (below_setB (below_setB (below_setB (below_setB (below_setB (below_setB (below_setB (below_setB (below_setB (below_setB ZB.out (p := ⟨g8, 0, none⟩) X8g.out (.int .i64 q.f0)) (p := ⟨g8, 1, none⟩) X8g.out (.int .i64 q.f1)) (p := ⟨g8, 2, none⟩) X8g.out (.int .i64 q.f2)) (p := ⟨g8, 3, none⟩) X8g.out (.int .i64 q.f3)) (p := ⟨g8, 4, none⟩) X8g.out (.int .i64 q.f4.f0)) (p := ⟨g8, 5, none⟩) X8g.out (.int .i64 q.f4.f1.f0)) (p := ⟨g8, 6, none⟩) X8g.out (.int .i64 q.f4.f1.f1)) (p := ⟨g8, 7, none⟩) X8g.out (.int .i64 q.f4.f2)) (p := ⟨g8, 8, none⟩) X8g.out (.int .i64 q.f4.f3)) (p := ⟨g8, 9, none⟩) X8g.out (.int .i64 q.f4.f4)) (p := ⟨g8, 10, none⟩) X8g.out (.int .i64 q.f4.f5)) (p := ⟨g8, 11, none⟩) X8g.out (.int .i64 q.f4.f6)) (p := ⟨g8, 12, none⟩) X8g.out (.bool q.f4.f7)) (p := ⟨g8, 13, none⟩) X8g.out (.slice A8 q.f4.f8.length c8)) (p := ⟨g8, 14, none⟩) X8g.out (.slice A9 q.f4.f9.length c9)); have X8 := Aside0.mk (blk_put (blk_put (blk_put (blk_put (blk_put (blk_put (blk_put (blk_put (blk_put (blk_put (blk_put (blk_put (blk_put (blk_put (blk_put ZX.out 0 (.int .i64 q.f0) (cs' := #[.int .i64 q.f0, .int .i64 0, .int .i64 0, .int .i64 0, .int .i64 0, .int .i64 0, .int .i64 0, .int .i64 0, .int .i64 0, .int .i64 0, .int .i64 0, .int .i64 0, .bool false, .slice none 0 0, .slice none 0 0]) rfl) 1 (.int .i64 q.f1) (cs' := #[.int .i64 q.f0, .int .i64 q.f1, .int .i64 0, .int .i64 0, .int .i64 0, .int .i64 0, .int .i64 0, .int .i64 0, .int .i64 0, .int .i64 0, .int .i64 0, .int .i64 0, .bool false, .slice none 0 0, .slice none 0 0]) rfl) 2 (.int .i64 q.f2) (cs' := #[.int .i64 q.f0, .int .i64 q.f1, .int .i64 q.f2, .int .i64 0, .int .i64 0, .int .i64 0, .int .i64 0, .int .i64 0, .int .i64 0, .int .i64 0, .int .i64 0, .int .i64 0, .bool false, .slice none 0 0, .slice none 0 0]) rfl) 3 (.int .i64 q.f3) (cs' := #[.int .i64 q.f0, .int .i64 q.f1, .int .i64 q.f2, .int .i64 q.f3, .int .i64 0, .int .i64 0, .int .i64 0, .int .i64 0, .int .i64 0, .int .i64 0, .int .i64 0, .int .i64 0, .bool false, .slice none 0 0, .slice none 0 0]) rfl) 4 (.int .i64 q.f4.f0) (cs' := #[.int .i64 q.f0, .int .i64 q.f1, .int .i64 q.f2, .int .i64 q.f3, .int .i64 q.f4.f0, .int .i64 0, .int .i64 0, .int .i64 0, .int .i64 0, .int .i64 0, .int .i64 0, .int .i64 0, .bool false, .slice none 0 0, .slice none 0 0]) rfl) 5 (.int .i64 q.f4.f1.f0) (cs' := #[.int .i64 q.f0, .int .i64 q.f1, .int .i64 q.f2, .int .i64 q.f3, .int .i64 q.f4.f0, .int .i64 q.f4.f1.f0, .int .i64 0, .int .i64 0, .int .i64 0, .int .i64 0, .int .i64 0, .int .i64 0, .bool false, .slice none 0 0, .slice none 0 0]) rfl) 6 (.int .i64 q.f4.f1.f1) (cs' := #[.int .i64 q.f0, .int .i64 q.f1, .int .i64 q.f2, .int .i64 q.f3, .int .i64 q.f4.f0, .int .i64 q.f4.f1.f0, .int .i64 q.f4.f1.f1, .int .i64 0, .int .i64 0, .int .i64 0, .int .i64 0, .int .i64 0, .bool false, .slice none 0 0, .slice none 0 0]) rfl) 7 (.int .i64 q.f4.f2) (cs' := #[.int .i64 q.f0, .int .i64 q.f1, .int .i64 q.f2, .int .i64 q.f3, .int .i64 q.f4.f0, .int .i64 q.f4.f1.f0, .int .i64 q.f4.f1.f1, .int .i64 q.f4.f2, .int .i64 0, .int .i64 0, .int .i64 0, .int .i64 0, .bool false, .slice none 0 0, .slice none 0 0]) rfl) 8 (.int .i64 q.f4.f3) (cs' := #[.int .i64 q.f0, .int .i64 q.f1, .int .i64 q.f2, .int .i64 q.f3, .int .i64 q.f4.f0, .int .i64 q.f4.f1.f0, .int .i64 q.f4.f1.f1, .int .i64 q.f4.f2, .int .i64 q.f4.f3, .int .i64 0, .int .i64 0, .int .i64 0, .bool false, .slice none 0 0, .slice none 0 0]) rfl) 9 (.int .i64 q.f4.f4) (cs' := #[.int .i64 q.f0, .int .i64 q.f1, .int .i64 q.f2, .int .i64 q.f3, .int .i64 q.f4.f0, .int .i64 q.f4.f1.f0, .int .i64 q.f4.f1.f1, .int .i64 q.f4.f2, .int .i64 q.f4.f3, .int .i64 q.f4.f4, .int .i64 0, .int .i64 0, .bool false, .slice none 0 0, .slice none 0 0]) rfl) 10 (.int .i64 q.f4.f5) (cs' := #[.int .i64 q.f0, .int .i64 q.f1, .int .i64 q.f2, .int .i64 q.f3, .int .i64 q.f4.f0, .int .i64 q.f4.f1.f0, .int .i64 q.f4.f1.f1, .int .i64 q.f4.f2, .int .i64 q.f4.f3, .int .i64 q.f4.f4, .int .i64 q.f4.f5, .int .i64 0, .bool false, .slice none 0 0, .slice none 0 0]) rfl) 11 (.int .i64 q.f4.f6) (cs' := #[.int .i64 q.f0, .int .i64 q.f1, .int .i64 q.f2, .int .i64 q.f3, .int .i64 q.f4.f0, .int .i64 q.f4.f1.f0, .int .i64 q.f4.f1.f1, .int .i64 q.f4.f2, .int .i64 q.f4.f3, .int .i64 q.f4.f4, .int .i64 q.f4.f5, .int .i64 q.f4.f6, .bool false, .slice none 0 0, .slice none 0 0]) rfl) 12 (.bool q.f4.f7) (cs' := #[.int .i64 q.f0, .int .i64 q.f1, .int .i64 q.f2, .int .i64 q.f3, .int .i64 q.f4.f0, .int .i64 q.f4.f1.f0, .int .i64 q.f4.f1.f1, .int .i64 q.f4.f2, .int .i64 q.f4.f3, .int .i64 q.f4.f4, .int .i64 q.f4.f5, .int .i64 q.f4.f6, .bool q.f4.f7, .slice none 0 0, .slice none 0 0]) rfl) 13 (.slice A8 q.f4.f8.length c8) (cs' := #[.int .i64 q.f0, .int .i64 q.f1, .int .i64 q.f2, .int .i64 q.f3, .int .i64 q.f4.f0, .int .i64 q.f4.f1.f0, .int .i64 q.f4.f1.f1, .int .i64 q.f4.f2, .int .i64 q.f4.f3, .int .i64 q.f4.f4, .int .i64 q.f4.f5, .int .i64 q.f4.f6, .bool q.f4.f7, .slice A8 q.f4.f8.length c8, .slice none 0 0]) rfl) 14 (.slice A9 q.f4.f9.length c9) (cs' := #[.int .i64 q.f0, .int .i64 q.f1, .int .i64 q.f2, .int .i64 q.f3, .int .i64 q.f4.f0, .int .i64 q.f4.f1.f0, .int .i64 q.f4.f1.f1, .int .i64 q.f4.f2, .int .i64 q.f4.f3, .int .i64 q.f4.f4, .int .i64 q.f4.f5, .int .i64 q.f4.f6, .bool q.f4.f7, .slice A8 q.f4.f8.length c8, .slice A9 q.f4.f9.length c9]) rfl); clear ZB ZX x_zc0 x_zf0 x_zc1 x_zf1 x_zc2 x_zf2 x_zc3 x_zf3 x_zc4 x_zf4 x_zc5 x_zf5 x_zc6 x_zf6 x_zc7 x_zf7 x_zc8 x_zf8 x_zc9 x_zf9 x_zc10 x_zf10 x_zc11 x_zf11 x_zc12 x_zf12 x_zc13 x_zf13 x_zc14 x_zf14; generalize (((((((((((((((w8m.setCell ⟨g8, 0, none⟩ (.int .i64 q.f0)).setCell ⟨g8, 1, none⟩ (.int .i64 q.f1)).setCell ⟨g8, 2, none⟩ (.int .i64 q.f2)).setCell ⟨g8, 3, none⟩ (.int .i64 q.f3)).setCell ⟨g8, 4, none⟩ (.int .i64 q.f4.f0)).setCell ⟨g8, 5, none⟩ (.int .i64 q.f4.f1.f0)).setCell ⟨g8, 6, none⟩ (.int .i64 q.f4.f1.f1)).setCell ⟨g8, 7, none⟩ (.int .i64 q.f4.f2)).setCell ⟨g8, 8, none⟩ (.int .i64 q.f4.f3)).setCell ⟨g8, 9, none⟩ (.int .i64 q.f4.f4)).setCell ⟨g8, 10, none⟩ (.int .i64 q.f4.f5)).setCell ⟨g8, 11, none⟩ (.int .i64 q.f4.f6)).setCell ⟨g8, 12, none⟩ (.bool q.f4.f7)).setCell ⟨g8, 13, none⟩ (.slice A8 q.f4.f8.length c8)).setCell ⟨g8, 14, none⟩ (.slice A9 q.f4.f9.length c9)) = w8 at NB8 X8 ⊢; have N8 := Aside0.mk (N7.out.below NB8.out); have Y8 := Aside0.mk (blk_below X6.out NB8.out); 
  refine start_ (n := 25) (S := fun w' => w'.cell? ⟨g8, 0, none⟩ = some (.int .i64 q.f0) ∧ w'.cell? ⟨g8, 1, none⟩ = some (.int .i64 q.f1) ∧ w'.cell? ⟨g8, 2, none⟩ = some (.int .i64 q.f2) ∧ w'.cell? ⟨g8, 3, none⟩ = some (.int .i64 q.f3) ∧ w'.cell? ⟨g8, 4, none⟩ = some (.int .i64 q.f4.f0) ∧ w'.cell? ⟨g8, 5, none⟩ = some (.int .i64 q.f4.f1.f0) ∧ w'.cell? ⟨g8, 6, none⟩ = some (.int .i64 q.f4.f1.f1) ∧ w'.cell? ⟨g8, 7, none⟩ = some (.int .i64 q.f4.f2) ∧ w'.cell? ⟨g8, 8, none⟩ = some (.int .i64 q.f4.f3) ∧ w'.cell? ⟨g8, 9, none⟩ = some (.int .i64 q.f4.f4) ∧ w'.cell? ⟨g8, 10, none⟩ = some (.int .i64 q.f4.f5) ∧ w'.cell? ⟨g8, 11, none⟩ = some (.int .i64 q.f4.f6) ∧ w'.cell? ⟨g8, 12, none⟩ = some (.bool q.f4.f7) ∧ w'.cell? ⟨g8, 13, none⟩ = some (.slice A8 q.f4.f8.length c8) ∧ w'.cell? ⟨g8, 14, none⟩ = some (.slice A9 q.f4.f9.length c9) ∧ w'.cell? (ad.add (j * 15)) = some (.int .i64 q.f0) ∧ w'.cell? ⟨(ad.add (j * 15)).block, (ad.add (j * 15)).off + 1, none⟩ = some (.int .i64 q.f1) ∧ w'.cell? ⟨(ad.add (j * 15)).block, (ad.add (j * 15)).off + 2, none⟩ = some (.int .i64 q.f2) ∧ w'.cell? ⟨(ad.add (j * 15)).block, (ad.add (j * 15)).off + 3, none⟩ = some (.int .i64 q.f3) ∧ w'.cell? ⟨(ad.add (j * 15)).block, (ad.add (j * 15)).off + 4, none⟩ = some (.int .i64 q.f4.f0) ∧ w'.cell? ⟨(ad.add (j * 15)).block, (ad.add (j * 15)).off + 5, none⟩ = some (.int .i64 q.f4.f1.f0) ∧ w'.cell? ⟨(ad.add (j * 15)).block, (ad.add (j * 15)).off + 6, none⟩ = some (.int .i64 q.f4.f1.f1) ∧ w'.cell? ⟨(ad.add (j * 15)).block, (ad.add (j * 15)).off + 7, none⟩ = some (.int .i64 q.f4.f2) ∧ w'.cell? ⟨(ad.add (j * 15)).block, (ad.add (j * 15)).off + 8, none⟩ = some (.int .i64 q.f4.f3) ∧ w'.cell? ⟨(ad.add (j * 15)).block, (ad.add (j * 15)).off + 9, none⟩ = some (.int .i64 q.f4.f4) ∧ w'.cell? ⟨(ad.add (j * 15)).block, (ad.add (j * 15)).off + 10, none⟩ = some (.int .i64 q.f4.f5) ∧ w'.cell? ⟨(ad.add (j * 15)).block, (ad.add (j * 15)).off + 11, none⟩ = some (.int .i64 q.f4.f6) ∧ w'.cell? ⟨(ad.add (j * 15)).block, (ad.add (j * 15)).off + 12, none⟩ = some (.bool q.f4.f7) ∧ w'.cell? ⟨(ad.add (j * 15)).block, (ad.add (j * 15)).off + 13, none⟩ = some (.slice A13 q.f4.f8.length c13) ∧ w'.cell? ⟨(ad.add (j * 15)).block, (ad.add (j * 15)).off + 14, none⟩ = some (.slice A14 q.f4.f9.length c14) ∧ w'.cell? ⟨g6, 1, none⟩ = some (.int .i64 (j : Int))) (ds := [13]) #[false, false, false, false, false, false, false, false, false, false, false, false, false, false, false, false, false, false, false, false, false, false, false, false, false] (by kernel_rfl) rfl rfl ⟨(blk_cell (blk_drew X8.out) 0).trans rfl, (blk_cell (blk_drew X8.out) 1).trans rfl, (blk_cell (blk_drew X8.out) 2).trans rfl, (blk_cell (blk_drew X8.out) 3).trans rfl, (blk_cell (blk_drew X8.out) 4).trans rfl, (blk_cell (blk_drew X8.out) 5).trans rfl, (blk_cell (blk_drew X8.out) 6).trans rfl, (blk_cell (blk_drew X8.out) 7).trans rfl, (blk_cell (blk_drew X8.out) 8).trans rfl, (blk_cell (blk_drew X8.out) 9).trans rfl, (blk_cell (blk_drew X8.out) 10).trans rfl, (blk_cell (blk_drew X8.out) 11).trans rfl, (blk_cell (blk_drew X8.out) 12).trans rfl, (blk_cell (blk_drew X8.out) 13).trans rfl, (blk_cell (blk_drew X8.out) 14).trans rfl, cell_bel (w := w7) EX.out.1 (below_drew NB8.out), cell_bel (w := w7) EX.out.2.1 (below_drew NB8.out), cell_bel (w := w7) EX.out.2.2.1 (below_drew NB8.out), cell_bel (w := w7) EX.out.2.2.2.1 (below_drew NB8.out), cell_bel (w := w7) EX.out.2.2.2.2.1 (below_drew NB8.out), cell_bel (w := w7) EX.out.2.2.2.2.2.1 (below_drew NB8.out), cell_bel (w := w7) EX.out.2.2.2.2.2.2.1 (below_drew NB8.out), cell_bel (w := w7) EX.out.2.2.2.2.2.2.2.1 (below_drew NB8.out), cell_bel (w := w7) EX.out.2.2.2.2.2.2.2.2.1 (below_drew NB8.out), cell_bel (w := w7) EX.out.2.2.2.2.2.2.2.2.2.1 (below_drew NB8.out), cell_bel (w := w7) EX.out.2.2.2.2.2.2.2.2.2.2.1 (below_drew NB8.out), cell_bel (w := w7) EX.out.2.2.2.2.2.2.2.2.2.2.2.1 (below_drew NB8.out), cell_bel (w := w7) EX.out.2.2.2.2.2.2.2.2.2.2.2.2.1 (below_drew NB8.out), cell_bel (w := w7) EX.out.2.2.2.2.2.2.2.2.2.2.2.2.2.1 (below_drew NB8.out), cell_bel (w := w7) EX.out.2.2.2.2.2.2.2.2.2.2.2.2.2.2 (below_drew NB8.out), (blk_cell (blk_drew Y8.out) 1).trans rfl⟩ (fun hHeld => ?_)
  refine pure_ (i := 0) (N := some 64) (v := ?_) (a' := ?_) #[true, false, false, false, false, false, false, false, false, false, false, false, false, false, false, false, false, false, false, false, false, false, false, false, false] rfl rfl (by kernel_rfl) (fun _ _ _ h => h) (Or.inl ⟨by rfl, ?_⟩) ?_ ?_
  rotate_left
  · intro w'
    go_simp
    with_reducible rfl
  rotate_left
  · simp only [Act.put, List.setIfInBounds_toArray, List.set_cons_zero, List.set_cons_succ, i64_w, i32_w]
    rfl
  refine pure_ (i := 1) (N := some 65) (v := ?_) (a' := ?_) #[true, true, false, false, false, false, false, false, false, false, false, false, false, false, false, false, false, false, false, false, false, false, false, false, false] rfl rfl (by kernel_rfl) (fun _ _ _ h => h) (Or.inl ⟨by rfl, ?_⟩) ?_ ?_
  rotate_left
  · intro w'
    go_simp
    with_reducible rfl
  rotate_left
  · simp only [Act.put, List.setIfInBounds_toArray, List.set_cons_zero, List.set_cons_succ, i64_w, i32_w]
    rfl
  refine pure_ (i := 2) (N := some 66) (v := ?_) (a' := ?_) #[true, true, true, false, false, false, false, false, false, false, false, false, false, false, false, false, false, false, false, false, false, false, false, false, false] rfl rfl (by kernel_rfl) (fun _ _ _ h => h) (Or.inl ⟨by rfl, ?_⟩) ?_ ?_
  rotate_left
  · intro w'
    go_simp
    with_reducible rfl
  rotate_left
  · simp only [Act.put, List.setIfInBounds_toArray, List.set_cons_zero, List.set_cons_succ, i64_w, i32_w]
    rfl
  refine pure_ (i := 3) (N := some 67) (v := ?_) (a' := ?_) #[true, true, true, true, false, false, false, false, false, false, false, false, false, false, false, false, false, false, false, false, false, false, false, false, false] rfl rfl (by kernel_rfl) (fun _ _ _ h => h) (Or.inl ⟨by rfl, ?_⟩) ?_ ?_
  rotate_left
  · intro w'
    go_simp
    with_reducible rfl
  rotate_left
  · simp only [Act.put, List.setIfInBounds_toArray, List.set_cons_zero, List.set_cons_succ, i64_w, i32_w]
    rfl
  refine pure_ (i := 4) (N := some 68) (v := ?_) (a' := ?_) #[true, true, true, true, true, false, false, false, false, false, false, false, false, false, false, false, false, false, false, false, false, false, false, false, false] rfl rfl (by kernel_rfl) (fun _ _ _ h => h) (Or.inl ⟨by rfl, ?_⟩) ?_ ?_
  rotate_left
  · intro w'
    go_simp
    with_reducible rfl
  rotate_left
  · simp only [Act.put, List.setIfInBounds_toArray, List.set_cons_zero, List.set_cons_succ, i64_w, i32_w]
    rfl
  refine pure_ (i := 5) (N := some 69) (v := ?_) (a' := ?_) #[true, true, true, true, true, true, false, false, false, false, false, false, false, false, false, false, false, false, false, false, false, false, false, false, false] rfl rfl (by kernel_rfl) (fun _ _ _ h => h) (Or.inl ⟨by rfl, ?_⟩) ?_ ?_
  rotate_left
  · intro w'
    go_simp
    with_reducible rfl
  rotate_left
  · simp only [Act.put, List.setIfInBounds_toArray, List.set_cons_zero, List.set_cons_succ, i64_w, i32_w]
    rfl
  refine pure_ (i := 6) (N := some 70) (v := ?_) (a' := ?_) #[true, true, true, true, true, true, true, false, false, false, false, false, false, false, false, false, false, false, false, false, false, false, false, false, false] rfl rfl (by kernel_rfl) (fun _ _ _ h => h) (Or.inl ⟨by rfl, ?_⟩) ?_ ?_
  rotate_left
  · intro w'
    go_simp
    with_reducible rfl
  rotate_left
  · simp only [Act.put, List.setIfInBounds_toArray, List.set_cons_zero, List.set_cons_succ, i64_w, i32_w]
    rfl
  refine pure_ (i := 8) (N := some 72) (v := ?_) (a' := ?_) #[true, true, true, true, true, true, true, false, true, false, false, false, false, false, false, false, false, false, false, false, false, false, false, false, false] rfl rfl (by kernel_rfl) (fun _ _ _ h => h) (Or.inl ⟨by rfl, ?_⟩) ?_ ?_
  rotate_left
  · intro w'
    go_simp
    with_reducible rfl
  rotate_left
  · simp only [Act.put, List.setIfInBounds_toArray, List.set_cons_zero, List.set_cons_succ, i64_w, i32_w]
    rfl
  refine pure_ (i := 9) (N := some 73) (v := ?_) (a' := ?_) #[true, true, true, true, true, true, true, false, true, true, false, false, false, false, false, false, false, false, false, false, false, false, false, false, false] rfl rfl (by kernel_rfl) (fun _ _ _ h => h) (Or.inl ⟨by rfl, ?_⟩) ?_ ?_
  rotate_left
  · intro w'
    go_simp
    with_reducible rfl
  rotate_left
  · simp only [Act.put, List.setIfInBounds_toArray, List.set_cons_zero, List.set_cons_succ, i64_w, i32_w]
    rfl
  refine take_ (i := 7) (N := some 71) (v := ?_) (a' := ?_) #[true, true, true, true, true, true, true, true, true, true, false, false, false, false, false, false, false, false, false, false, false, false, false, false, false] rfl rfl (by kernel_rfl) (fun _ _ _ h => h) (Or.inl ⟨by rfl, ?_⟩) hHeld ?_ ?_
  rotate_left
  · rintro w' ⟨s0, s1, s2, s3, s4, s5, s6, s7, s8, s9, s10, s11, s12, s13, s14, s15, s16, s17, s18, s19, s20, s21, s22, s23, s24, s25, s26, s27, s28, s29, s30⟩
    go_simp
    with_reducible rfl
  rotate_left
  · simp only [Act.put, List.setIfInBounds_toArray, List.set_cons_zero, List.set_cons_succ, i64_w, i32_w]
    rfl
  refine take_ (i := 10) (N := some 74) (v := ?_) (a' := ?_) #[true, true, true, true, true, true, true, true, true, true, true, false, false, false, false, false, false, false, false, false, false, false, false, false, false] rfl rfl (by kernel_rfl) (fun _ _ _ h => h) (Or.inl ⟨by rfl, ?_⟩) hHeld ?_ ?_
  rotate_left
  · rintro w' ⟨s0, s1, s2, s3, s4, s5, s6, s7, s8, s9, s10, s11, s12, s13, s14, s15, s16, s17, s18, s19, s20, s21, s22, s23, s24, s25, s26, s27, s28, s29, s30⟩
    go_simp
    with_reducible rfl
  rotate_left
  · simp only [Act.put, List.setIfInBounds_toArray, List.set_cons_zero, List.set_cons_succ, i64_w, i32_w]
    rfl
  refine pure_ (i := 11) (N := some 75) (v := ?_) (a' := ?_) #[true, true, true, true, true, true, true, true, true, true, true, true, false, false, false, false, false, false, false, false, false, false, false, false, false] rfl rfl (by kernel_rfl) (fun _ _ _ h => h) (Or.inl ⟨by rfl, ?_⟩) ?_ ?_
  rotate_left
  · intro w'
    go_simp
    with_reducible rfl
  rotate_left
  · simp only [Act.put, List.setIfInBounds_toArray, List.set_cons_zero, List.set_cons_succ, i64_w, i32_w]
    rfl
  refine take_ (i := 12) (N := some 76) (v := ?_) (a' := ?_) #[true, true, true, true, true, true, true, true, true, true, true, true, true, false, false, false, false, false, false, false, false, false, false, false, false] rfl rfl (by kernel_rfl) (fun _ _ _ h => h) (Or.inl ⟨by rfl, ?_⟩) hHeld ?_ ?_
  rotate_left
  · rintro w' ⟨s0, s1, s2, s3, s4, s5, s6, s7, s8, s9, s10, s11, s12, s13, s14, s15, s16, s17, s18, s19, s20, s21, s22, s23, s24, s25, s26, s27, s28, s29, s30⟩
    go_simp
    with_reducible rfl
  rotate_left
  · simp only [Act.put, List.setIfInBounds_toArray, List.set_cons_zero, List.set_cons_succ, i64_w, i32_w]
    rfl
  refine last_ (i := 13) (N := some 77) #[true, true, true, true, true, true, true, true, true, true, true, true, true, true, false, false, false, false, false, false, false, false, false, false, false] rfl rfl (by kernel_rfl) (by decide) (fun K hK => ?_)
  refine goes_ Try.func14 (by kernel_rfl) rfl #[.agg #[.int .i64 q.f0, .int .i64 q.f1, .int .i64 q.f2, .int .i64 q.f3, .int .i64 q.f4.f0, .int .i64 q.f4.f1.f0, .int .i64 q.f4.f1.f1, .int .i64 q.f4.f2, .int .i64 q.f4.f3, .int .i64 q.f4.f4, .int .i64 q.f4.f5, .int .i64 q.f4.f6, .bool q.f4.f7, .slice A8 q.f4.f8.length c8, .slice A9 q.f4.f9.length c9], .agg #[.int .i64 q.f0, .int .i64 q.f1, .int .i64 q.f2, .int .i64 q.f3, .int .i64 q.f4.f0, .int .i64 q.f4.f1.f0, .int .i64 q.f4.f1.f1, .int .i64 q.f4.f2, .int .i64 q.f4.f3, .int .i64 q.f4.f4, .int .i64 q.f4.f5, .int .i64 q.f4.f6, .bool q.f4.f7, .slice A13 q.f4.f8.length c13, .slice A14 q.f4.f9.length c14]] (by rfl) rfl rfl (by simp only [List.map_toArray, List.map_cons, List.map_nil]; rfl) ?_
  with_reducible refine (psame_calls (p := q) (w := w8.drew) (Kd.C_below O8.out (below_drew NB8.out)) (Kd.C_below Q8.out (below_drew NB8.out)) (Kd.C_below G13.out (below_drew N8.out.bel)) (Kd.C_below G14.out (below_drew N8.out.bel)) FT.out).mono ?_
  rintro x w9 ⟨rfl, hb⟩
  refine ⟨_, rfl, ?_⟩
  have N9 := Aside0.mk ((N8.out.drew).below hb)
  have Y9 := Aside0.mk (blk_below (blk_drew Y8.out) hb)
  clear hb
  refine hK.out _ _ ?_
  clear hK K
  refine norm_ (a' := ?_) ?_ ?_
  rotate_left
  · show Act.put _ (some 77) _ = _
    simp only [Act.put, List.setIfInBounds_toArray, List.set_cons_zero, List.set_cons_succ, i64_w, i32_w]
    rfl
  refine pure_ (i := 14) (N := some 78) (v := ?_) (a' := ?_) #[true, true, true, true, true, true, true, true, true, true, true, true, true, true, true, false, false, false, false, false, false, false, false, false, false] rfl rfl (by kernel_rfl) (fun _ _ _ h => h) (Or.inl ⟨by rfl, ?_⟩) ?_ ?_
  rotate_left
  · intro w'
    go_simp
    with_reducible rfl
  rotate_left
  · simp only [Act.put, List.setIfInBounds_toArray, List.set_cons_zero, List.set_cons_succ, i64_w, i32_w]
    rfl
  refine pure_ (i := 15) (N := some 79) (v := ?_) (a' := ?_) #[true, true, true, true, true, true, true, true, true, true, true, true, true, true, true, true, false, false, false, false, false, false, false, false, false] rfl rfl (by kernel_rfl) (fun _ _ _ h => h) (Or.inl ⟨by rfl, ?_⟩) ?_ ?_
  rotate_left
  · intro w'
    go_simp
    with_reducible rfl
  rotate_left
  · simp only [Act.put, List.setIfInBounds_toArray, List.set_cons_zero, List.set_cons_succ, i64_w, i32_w]
    rfl
  refine pure_ (i := 16) (N := some 80) (v := ?_) (a' := ?_) #[true, true, true, true, true, true, true, true, true, true, true, true, true, true, true, true, true, false, false, false, false, false, false, false, false] rfl rfl (by kernel_rfl) (fun _ _ _ h => h) (Or.inl ⟨by rfl, ?_⟩) ?_ ?_
  rotate_left
  · intro w'
    go_simp
    with_reducible rfl
  rotate_left
  · simp only [Act.put, List.setIfInBounds_toArray, List.set_cons_zero, List.set_cons_succ, i64_w, i32_w]
    rfl
  refine pure_ (i := 17) (N := some 81) (v := ?_) (a' := ?_) #[true, true, true, true, true, true, true, true, true, true, true, true, true, true, true, true, true, true, false, false, false, false, false, false, false] rfl rfl (by kernel_rfl) (fun _ _ _ h => h) (Or.inl ⟨by rfl, ?_⟩) ?_ ?_
  rotate_left
  · intro w'
    go_simp
    with_reducible rfl
  rotate_left
  · simp only [Act.put, List.setIfInBounds_toArray, List.set_cons_zero, List.set_cons_succ, i64_w, i32_w]
    rfl
  refine pure_ (i := 18) (N := some 82) (v := ?_) (a' := ?_) #[true, true, true, true, true, true, true, true, true, true, true, true, true, true, true, true, true, true, true, false, false, false, false, false, false] rfl rfl (by kernel_rfl) (fun _ _ _ h => h) (Or.inl ⟨by rfl, ?_⟩) ?_ ?_
  rotate_left
  · intro w'
    go_simp
    with_reducible rfl
  rotate_left
  · simp only [Act.put, List.setIfInBounds_toArray, List.set_cons_zero, List.set_cons_succ, i64_w, i32_w]
    rfl
  refine pure_ (i := 19) (N := some 83) (v := ?_) (a' := ?_) #[true, true, true, true, true, true, true, true, true, true, true, true, true, true, true, true, true, true, true, true, false, false, false, false, false] rfl rfl (by kernel_rfl) (fun _ _ _ h => h) (Or.inl ⟨by rfl, ?_⟩) ?_ ?_
  rotate_left
  · intro w'
    go_simp
    with_reducible rfl
  rotate_left
  · simp only [Act.put, List.setIfInBounds_toArray, List.set_cons_zero, List.set_cons_succ, i64_w, i32_w]
    rfl
  refine pure_ (i := 20) (N := some 84) (v := ?_) (a' := ?_) #[true, true, true, true, true, true, true, true, true, true, true, true, true, true, true, true, true, true, true, true, true, false, false, false, false] rfl rfl (by kernel_rfl) (fun _ _ _ h => h) (Or.inl ⟨by rfl, ?_⟩) ?_ ?_
  rotate_left
  · intro w'
    go_simp
    with_reducible rfl
  rotate_left
  · simp only [Act.put, List.setIfInBounds_toArray, List.set_cons_zero, List.set_cons_succ, i64_w, i32_w]
    rfl
  refine pure_ (i := 21) (N := some 85) (v := undef) (a' := ?_) #[true, true, true, true, true, true, true, true, true, true, true, true, true, true, true, true, true, true, true, true, true, true, false, false, false] rfl rfl (by kernel_rfl) (fun _ _ _ h => h) (Or.inr ⟨by rfl, rfl⟩) ?_ ?_
  rotate_left
  · simp only [Act.put, List.setIfInBounds_toArray, List.set_cons_zero, List.set_cons_succ, i64_w, i32_w]
    rfl
  refine pure_ (i := 22) (N := some 86) (v := undef) (a' := ?_) #[true, true, true, true, true, true, true, true, true, true, true, true, true, true, true, true, true, true, true, true, true, true, true, false, false] rfl rfl (by kernel_rfl) (fun _ _ _ h => h) (Or.inr ⟨by rfl, rfl⟩) ?_ ?_
  rotate_left
  · simp only [Act.put, List.setIfInBounds_toArray, List.set_cons_zero, List.set_cons_succ, i64_w, i32_w]
    rfl
  refine pure_ (i := 23) (N := some 87) (v := ?_) (a' := ?_) #[true, true, true, true, true, true, true, true, true, true, true, true, true, true, true, true, true, true, true, true, true, true, true, true, false] rfl rfl (by kernel_rfl) (fun _ _ _ h => h) (Or.inl ⟨by rfl, ?_⟩) ?_ ?_
  rotate_left
  · intro w'
    go_simp
    with_reducible rfl
  rotate_left
  · simp only [Act.put, List.setIfInBounds_toArray, List.set_cons_zero, List.set_cons_succ, i64_w, i32_w]
    rfl
  refine pure_ (i := 24) (N := some 88) (v := ?_) (a' := ?_) #[true, true, true, true, true, true, true, true, true, true, true, true, true, true, true, true, true, true, true, true, true, true, true, true, true] rfl rfl (by kernel_rfl) (fun _ _ _ h => h) (Or.inl ⟨by rfl, ?_⟩) ?_ ?_
  rotate_left
  · intro w'
    go_simp
    with_reducible rfl
  rotate_left
  · simp only [Act.put, List.setIfInBounds_toArray, List.set_cons_zero, List.set_cons_succ, i64_w, i32_w]
    rfl
  refine done_ (by kernel_rfl) ?_
  have hct := cut_to (P := Try.prog) 24 37 .i64 Try.underlying24 (info_parts info37_).choose_spec.1 (some ad) ms.length c4 (j : Int) hj0 (Int.le_of_lt hj1) HCC.out
  rw [Int.toNat_natCast] at hct
  obtain ⟨BB, hBB⟩ : ∃ B, B = (if c4 = j + 1 then some ad else some (ad.add ((j + 1) * 15))) := ⟨_, rfl⟩
  have HBB := Aside0.mk hBB
  have hBB2 := hBB.symm
  have s1 : ((0 : Int) ≤ (j : Int) + 1) = True := eq_true (by omega)
  have s2 : ((j : Int) + 1 ≤ (ms.length : Int)) = True := eq_true (by omega)
  have s3 : (j + 1 ≤ ms.length) = True := eq_true HJ.out
  have b1 : wrap64 ((j : Int) + 1) = ((j + 1 : Nat) : Int) := by have := HLM.out; unfold wrap64; omega
  clear hBB
  go_wp2_with fail
  refine start_ (n := 13) (S := fun w' => w'.cell? ⟨g6, 1, none⟩ = some (.int .i64 (j : Int))) (ds := [11]) #[false, false, false, false, false, false, false, false, false, false, false, false, false] (by kernel_rfl) rfl rfl ((blk_cell (blk_drew Y9.out) 1).trans rfl) (fun hHeld => ?_)
  refine pure_ (i := 1) (N := some 91) (v := ?_) (a' := ?_) #[false, true, false, false, false, false, false, false, false, false, false, false, false] rfl rfl (by kernel_rfl) (fun _ _ _ h => h) (Or.inl ⟨by rfl, ?_⟩) ?_ ?_
  rotate_left
  · intro w'
    go_simp
    with_reducible rfl
  rotate_left
  · simp only [Act.put, List.setIfInBounds_toArray, List.set_cons_zero, List.set_cons_succ, i64_w, i32_w]
    rfl
  refine pure_ (i := 2) (N := some 92) (v := ?_) (a' := ?_) #[false, true, true, false, false, false, false, false, false, false, false, false, false] rfl rfl (by kernel_rfl) (fun _ _ _ h => h) (Or.inl ⟨by rfl, ?_⟩) ?_ ?_
  rotate_left
  · intro w'
    go_simp
    with_reducible rfl
  rotate_left
  · simp only [Act.put, List.setIfInBounds_toArray, List.set_cons_zero, List.set_cons_succ, i64_w, i32_w]
    rfl
  refine pure_ (i := 6) (N := some 96) (v := ?_) (a' := ?_) #[false, true, true, false, false, false, true, false, false, false, false, false, false] rfl rfl (by kernel_rfl) (fun _ _ _ h => h) (Or.inl ⟨by rfl, ?_⟩) ?_ ?_
  rotate_left
  · intro w'
    go_simp
    with_reducible rfl
  rotate_left
  · simp only [Act.put, List.setIfInBounds_toArray, List.set_cons_zero, List.set_cons_succ, i64_w, i32_w]
    rfl
  refine pure_ (i := 7) (N := some 97) (v := ?_) (a' := ?_) #[false, true, true, false, false, false, true, true, false, false, false, false, false] rfl rfl (by kernel_rfl) (fun _ _ _ h => h) (Or.inl ⟨by rfl, ?_⟩) ?_ ?_
  rotate_left
  · intro w'
    go_simp
    with_reducible rfl
  rotate_left
  · simp only [Act.put, List.setIfInBounds_toArray, List.set_cons_zero, List.set_cons_succ, i64_w, i32_w]
    rfl
  refine take_ (i := 3) (N := some 93) (v := ?_) (a' := ?_) #[false, true, true, true, false, false, true, true, false, false, false, false, false] rfl rfl (by kernel_rfl) (fun _ _ _ h => h) (Or.inl ⟨by rfl, ?_⟩) hHeld ?_ ?_
  rotate_left
  · intro w' s0
    go_simp
    with_reducible rfl
  rotate_left
  · simp only [Act.put, List.setIfInBounds_toArray, List.set_cons_zero, List.set_cons_succ, i64_w, i32_w]
    rfl
  refine pure_ (i := 4) (N := some 94) (v := ?_) (a' := ?_) #[false, true, true, true, true, false, true, true, false, false, false, false, false] rfl rfl (by kernel_rfl) (fun _ _ _ h => h) (Or.inl ⟨by rfl, ?_⟩) ?_ ?_
  rotate_left
  · intro w'
    go_simp
    with_reducible rfl
  rotate_left
  · simp only [Act.put, List.setIfInBounds_toArray, List.set_cons_zero, List.set_cons_succ, i64_w, i32_w]
    rfl
  refine take_ (i := 8) (N := some 98) (v := ?_) (a' := ?_) #[false, true, true, true, true, false, true, true, true, false, false, false, false] rfl rfl (by kernel_rfl) (fun _ _ _ h => h) (Or.inl ⟨by rfl, ?_⟩) hHeld ?_ ?_
  rotate_left
  · intro w' s0
    go_simp
    with_reducible rfl
  rotate_left
  · simp only [Act.put, List.setIfInBounds_toArray, List.set_cons_zero, List.set_cons_succ, i64_w, i32_w]
    rfl
  refine pure_ (i := 9) (N := some 99) (v := ?_) (a' := ?_) #[false, true, true, true, true, false, true, true, true, true, false, false, false] rfl rfl (by kernel_rfl) (fun _ _ _ h => h) (Or.inl ⟨by rfl, ?_⟩) ?_ ?_
  rotate_left
  · intro w'
    go_simp
    with_reducible rfl
  rotate_left
  · simp only [Act.put, List.setIfInBounds_toArray, List.set_cons_zero, List.set_cons_succ, i64_w, i32_w]
    rfl
  refine pure_ (i := 10) (N := some 100) (v := ?_) (a' := ?_) #[false, true, true, true, true, false, true, true, true, true, true, false, false] rfl rfl (by kernel_rfl) (fun _ _ _ h => h) (Or.inl ⟨by rfl, ?_⟩) ?_ ?_
  rotate_left
  · intro w'
    go_simp
    with_reducible rfl
  rotate_left
  · simp only [Act.put, List.setIfInBounds_toArray, List.set_cons_zero, List.set_cons_succ, i64_w, i32_w]
    rfl
  refine one_ (i := 0) (N := some 90) #[true, true, true, true, true, false, true, true, true, true, true, false, false] rfl rfl (by kernel_rfl) (by decide) (fun K hK => ?_)
  refine Kd.R_lit_step (lent w k37) (w0 := w9.drew) w9.drew.heap.size 37 (by rfl) (N := 90) ?hd (xs := ([] : List S37)) (inner := []) (ok := fun _ => True) (okp := fun _ => True) ?hr ?hp (fun _ hk => hk) trivial (Below.refl _ _) (Nat.le_refl _) (by simp) ?_
  (case hd => rfl)
  (case hr => first | (go_simp; done) | (go_simp; rfl))
  (case hp => exact Reps.none _ _)
  intro vL w10 hoL hb hg_ hnew_
  have L10 := Aside0.mk hoL
  have BB10 := Aside0.mk hb
  have N10 := Aside0.mk (N9.out.drew.below hb)
  have Y10 := Aside0.mk (blk_below (blk_drew Y9.out) hb)
  clear hoL hb hg_ hnew_
  refine hK.out _ _ ((blk_cell Y10.out 1).trans rfl) (fun hHeld => ?_)
  clear hK K
  refine norm_ (a' := ?_) ?_ ?_
  rotate_left
  · show Act.put _ (some 90) _ = _
    simp only [Act.put, List.setIfInBounds_toArray, List.set_cons_zero, List.set_cons_succ, i64_w, i32_w]
    rfl
  refine one_ (i := 5) (N := some 95) #[true, true, true, true, true, true, true, true, true, true, true, false, false] rfl rfl (by kernel_rfl) (by decide) (fun K hK => ?_)
  refine Kd.R_append_rows_step (lent w k37) (Rr := k37.K w) (w0 := w9.drew) w9.drew.heap.size (by rfl) (.tmp 90) (.tmp 94) 24 37 (.agg #[.int .i64 0, .int .i64 0, .int .i64 0, .int .i64 0, .int .i64 0, .int .i64 0, .int .i64 0, .int .i64 0, .int .i64 0, .int .i64 0, .int .i64 0, .int .i64 0, .bool false, .slice none 0 0, .slice none 0 0]) 152 rfl Try.underlying24 info37_ rfl (show 0 < 15 by decide) (by omega) vL [] (ms.take j) _ _ _ (fun _ => True) (fun _ => False) rfl rfl ?aO ?aR (fun _ _ h => h) (fun _ h => h.elim) ?aF ?aB ?aS ?aL ?_
  (case aO => exact L10.out)
  (case aR => exact by have := Kd.C_take (m := j) (MN.C N10.out rfl).2.2 (Nat.le_of_lt HJ.out); rwa [show (ms.take j).length = j by rw [List.length_take]; have := HJ.out; omega] at this)
  (case aF => exact fun _ _ => trivial)
  (case aB => exact BB10.out)
  (case aS => exact BB10.out.size)
  (case aL => have := HLM.out; have := HJ.out; simp only [List.length_nil]; omega)
  intro v11 w11 ho hb hg hat
  rw [List.nil_append] at ho
  have L11 := Aside0.mk ho
  have BB11 := Aside0.mk hb
  have N11 := Aside0.mk (N9.out.drew.below hb)
  have Y11 := Aside0.mk (blk_below (blk_drew Y9.out) hb)
  clear ho hb hg hat
  refine hK.out _ _ ((blk_cell Y11.out 1).trans rfl) (fun hHeld => ?_)
  clear hK K
  refine norm_ (a' := ?_) ?_ ?_
  rotate_left
  · show Act.put _ (some 95) _ = _
    simp only [Act.put, List.setIfInBounds_toArray, List.set_cons_zero, List.set_cons_succ, i64_w, i32_w]
    rfl
  refine last_ (i := 11) (N := some 101) #[true, true, true, true, true, true, true, true, true, true, true, true, false] rfl rfl (by kernel_rfl) (by decide) (fun K hK => ?_)
  refine Kd.R_append_rows_step (lent w k37) (Rr := k37.K w) (w0 := w9.drew) w9.drew.heap.size (by rfl) (.tmp 95) (.tmp 100) 24 37 (.agg #[.int .i64 0, .int .i64 0, .int .i64 0, .int .i64 0, .int .i64 0, .int .i64 0, .int .i64 0, .int .i64 0, .int .i64 0, .int .i64 0, .int .i64 0, .int .i64 0, .bool false, .slice none 0 0, .slice none 0 0]) 152 rfl Try.underlying24 info37_ rfl (show 0 < 15 by decide) (by omega) v11 (ms.take j) (ms.drop (j + 1)) _ _ _ (fun _ => True) (fun _ => False) rfl rfl ?aO ?aR (fun _ _ h => h) (fun _ h => h.elim) ?aF ?aB ?aS ?aL ?_
  (case aO => exact L11.out)
  (case aR => exact by have := Kd.C_drop (m := j + 1) (MN.C N11.out rfl).2.2 HJ.out HCC.out; rw [List.length_drop] at this; rw [HBB.out]; exact this)
  (case aF => exact fun _ _ => trivial)
  (case aB => exact BB11.out)
  (case aS => exact BB11.out.size)
  (case aL => have := HLM.out; have := HJ.out; simp only [List.length_take]; omega)
  intro v12 w12 ho hb hg hat
  obtain ⟨ML, hML⟩ : ∃ L, L = ms.take j ++ ms.drop (j + 1) := ⟨_, rfl⟩
  rw [← hML] at ho
  obtain ⟨A12, c12, e12⟩ := Kd.R_slice ho
  subst e12
  have N12_ := Aside0.mk (MN.swap N9.out.drew hb ho (by rw [hML]; exact fit_erase N9.out.fit))
  have hME : ms.eraseIdx j = ML := by rw [hML, List.eraseIdx_eq_take_drop_succ]
  have hMLl : ML.length ≤ ms.length := by rw [← hME]; exact List.length_eraseIdx_le ms j
  rw [hME] at N12_
  have N12 := Aside0.mk N12_.out
  have HMLl := Aside0.mk hMLl
  clear ho hb hg hat hML hME N12_ hMLl
  refine hK.out _ _ ?_
  clear hK K
  refine norm_ (a' := ?_) ?_ ?_
  rotate_left
  · show Act.put _ (some 101) _ = _
    simp only [Act.put, List.setIfInBounds_toArray, List.set_cons_zero, List.set_cons_succ, i64_w, i32_w]
    rfl
  refine pure_ (i := 12) (N := some 4) (v := ?_) (a' := ?_) #[true, true, true, true, true, true, true, true, true, true, true, true, true] rfl rfl (by kernel_rfl) (fun _ _ _ h => h) (Or.inl ⟨by rfl, ?_⟩) ?_ ?_
  rotate_left
  · intro w'
    go_simp
    with_reducible rfl
  rotate_left
  · simp only [Act.put, List.setIfInBounds_toArray, List.set_cons_zero, List.set_cons_succ, i64_w, i32_w]
    rfl
  refine done_ (by kernel_rfl) ?_
  clear L10 BB10 N10 Y10 L11 BB11 N11 Y11 hct hBB2 s1 s2 s3 b1
  have z3 : ((ML.length : Int) != (ML.length : Int)) = false := bne_self_eq_false _
  go_wp2_with fail
  refine (net_Len N12.out.net).mono ?_; rintro x w90 ⟨rfl, hb⟩; have N90 := Aside0.mk (N12.out.below hb); clear hb
  go_wp2_with fail
  exact HK.out _ _ _ _ _ _ _ _ _ _ _ _ _ _ _ _ _ _ _ _ _ _ _ _ _ _ _ _ _ _ _ _ _ _ _ _ _ _ _ _ _ _ _ _ _ _ _ _ _ _ _ _ _ _ _ _ _ _ _ _ _ _ _ _ _ _ _ _ _ _ _ _ _ _ _ _ _ _ _ _ _ _ _ _ _ _ _ _ _ _ _ _ _ _ _ _ _ _ _ _ _ _ _ _ _ _ _ _ _ _ _ _ _ _ _ _ _ _ _ _ _ _ _ _ _ _ _ _ _ _ _ _ _ _ _ _ _ _ _ _ _ _ _ _ _ _ _ _ _ _ _ _ _ w90 (ML) (by first | rw [b2] | rfl) (by have := HMLl.out; have := HL.out; omega) (by first | exact N90.out.any | (have h := N90.out.any; simp only [List.length_append, List.length_singleton] at h ⊢; exact h))
set_option maxHeartbeats 16000000 in
set_option maxRecDepth 100000 in
theorem np_2in {w wr : World} {l0 : List S28} {c0 g3 i c4 c2 : Nat} {ms ps : List S37} {A4 A2 : Option Addr} {ad0 : Addr} {ok_ oi : Int} {u2 u6 u7 u8 u9 u10 u11 u12 u24 u25 u26 u27 u28 u29 u30 u31 u32 u33 u34 u35 u36 u37 u38 u39 u40 u41 u42 u43 u44 u45 u46 u47 u48 u49 u50 u51 u52 u53 u54 u55 u56 u57 u58 u59 u60 u61 u62 u63 u64 u65 u66 u67 u68 u69 u70 u71 u72 u73 u74 u75 u76 u77 u78 u79 u80 u81 u82 u83 u84 u85 u86 u87 u88 u89 u90 u91 u92 u93 u94 u95 u96 u97 u98 u99 u100 u101 u102 u103 u104 u105 u106 u107 u108 u109 u110 u111 u112 u113 u114 u115 u116 u117 u118 u119 u120 u121 u122 u123 u124 u125 u126 u127 u128 u129 u130 u131 u132 u133 u134 u135 u136 u137 u138 u139 u140 u141 u142 u143 u144 u145 u146 u147 u148 u149 u150 u151 u152 u153 u154 u155 u156 u157 u158 u159 u160 u161 u162 u163 u164 u165 u166 : Value} {K K1 : Act → World → Prop}
    (hi : i < l0.length) (h60 : l0.length ≤ 60) (hl : ms.length ≤ 50 * i) (n4 : MN w wr g3 (.slice A4 ms.length c4) ms ms (fun _ => True))
    (y0 : wr.cell? (ad0.add (i * 3)) = some (.int .i64 ok_)) (y1 : wr.cell? ⟨(ad0.add (i * 3)).block, (ad0.add (i * 3)).off + 1, none⟩ = some (.int .i64 oi)) (y2 : wr.cell? ⟨(ad0.add (i * 3)).block, (ad0.add (i * 3)).off + 2, none⟩ = some (.slice A2 ps.length c2))
    (l2 : ps.length ≤ c2) (g2 : Kd.C k37 w A2 ps.length ps) (hfp : ∀ y ∈ ps, Fit y) (hk0 : ¬ok_ = 0) (hk1 : ¬ok_ = 1) (hk2 : ok_ = 2) (hth : 0 ≤ oi) (hlt : oi < (ms.length : Int))
    (hK : ∀ (u2 u6 u7 u8 u9 u10 u11 u12 u24 u25 u26 u27 u28 u29 u30 u31 u32 u33 u34 u35 u36 u37 u38 u39 u40 u41 u42 u43 u44 u45 u46 u47 u48 u49 u50 u51 u52 u53 u54 u55 u56 u57 u58 u59 u60 u61 u62 u63 u64 u65 u66 u67 u68 u69 u70 u71 u72 u73 u74 u75 u76 u77 u78 u79 u80 u81 u82 u83 u84 u85 u86 u87 u88 u89 u90 u91 u92 u93 u94 u95 u96 u97 u98 u99 u100 u101 u102 u103 u104 u105 u106 u107 u108 u109 u110 u111 u112 u113 u114 u115 u116 u117 u118 u119 u120 u121 u122 u123 u124 u125 u126 u127 u128 u129 u130 u131 u132 u133 u134 u135 u136 u137 u138 u139 u140 u141 u142 u143 u144 u145 u146 u147 u148 u149 u150 u151 u152 u153 u154 u155 u156 u157 u158 u159 u160 u161 u162 u163 u164 u165 u166 v4 v23 : Value) (w' : World) (ms' : List S37), v23 = .int .i64 ((i + 1 : Nat) : Int) → ms'.length ≤ 50 * (i + 1) → MN w w' g3 v4 ms' ms' (fun _ => True) → K ⟨#[.slice (some ad0) l0.length c0, undef, u2, .pointer (some ⟨g3, 0, none⟩), v4, undef, u6, u7, u8, u9, u10, u11, u12, undef, undef, undef, .bool true, .bool false, .slice (some ad0) l0.length c0, .int .i64 (l0.length : Int), .bool false, .slice (some ad0) l0.length c0, .int .i64 (l0.length : Int), v23, u24, u25, u26, u27, u28, u29, u30, u31, u32, u33, u34, u35, u36, u37, u38, u39, u40, u41, u42, u43, u44, u45, u46, u47, u48, u49, u50, u51, u52, u53, u54, u55, u56, u57, u58, u59, u60, u61, u62, u63, u64, u65, u66, u67, u68, u69, u70, u71, u72, u73, u74, u75, u76, u77, u78, u79, u80, u81, u82, u83, u84, u85, u86, u87, u88, u89, u90, u91, u92, u93, u94, u95, u96, u97, u98, u99, u100, u101, u102, u103, u104, u105, u106, u107, u108, u109, u110, u111, u112, u113, u114, u115, u116, u117, u118, u119, u120, u121, u122, u123, u124, u125, u126, u127, u128, u129, u130, u131, u132, u133, u134, u135, u136, u137, u138, u139, u140, u141, u142, u143, u144, u145, u146, u147, u148, u149, u150, u151, u152, u153, u154, u155, u156, u157, u158, u159, u160, u161, u162, u163, u164, u165, u166, undef, undef, undef, undef, undef, undef, undef, undef, undef, undef, undef, undef, undef, undef, undef, undef, undef, undef, undef, undef, undef, undef], []⟩ w') :
    Code.wp Try.prog npBody (Exit.then K (Exit.inBlock 0 (Exit.then K1 (bodyPost Try.prog Try.f3 (fun e w' => e = .returned (.bool true) ∧ Below w.heap.size w w'))))) ⟨#[.slice (some ad0) l0.length c0, undef, u2, .pointer (some ⟨g3, 0, none⟩), .slice A4 ms.length c4, undef, u6, u7, u8, u9, u10, u11, u12, undef, undef, undef, .bool true, .bool false, .slice (some ad0) l0.length c0, .int .i64 (l0.length : Int), .bool false, .slice (some ad0) l0.length c0, .int .i64 (l0.length : Int), .int .i64 (i : Int), u24, u25, u26, u27, u28, u29, u30, u31, u32, u33, u34, u35, u36, u37, u38, u39, u40, u41, u42, u43, u44, u45, u46, u47, u48, u49, u50, u51, u52, u53, u54, u55, u56, u57, u58, u59, u60, u61, u62, u63, u64, u65, u66, u67, u68, u69, u70, u71, u72, u73, u74, u75, u76, u77, u78, u79, u80, u81, u82, u83, u84, u85, u86, u87, u88, u89, u90, u91, u92, u93, u94, u95, u96, u97, u98, u99, u100, u101, u102, u103, u104, u105, u106, u107, u108, u109, u110, u111, u112, u113, u114, u115, u116, u117, u118, u119, u120, u121, u122, u123, u124, u125, u126, u127, u128, u129, u130, u131, u132, u133, u134, u135, u136, u137, u138, u139, u140, u141, u142, u143, u144, u145, u146, u147, u148, u149, u150, u151, u152, u153, u154, u155, u156, u157, u158, u159, u160, u161, u162, u163, u164, u165, u166, undef, undef, undef, undef, undef, undef, undef, undef, undef, undef, undef, undef, undef, undef, undef, undef, undef, undef, undef, undef, undef, undef], []⟩ wr := by
  have d1 : decide ((i : Int) < (l0.length : Int)) = true := decide_eq_true (by omega)
  have d2 : decide (i < l0.length) = true := decide_eq_true hi
  have d3 : (i < l0.length) = True := eq_true hi
  have hi0 : (0 : Int) ≤ (i : Int) := by omega
  have hi1 : (i : Int) < (l0.length : Int) := by omega
  have G2 := Aside0.mk g2; have FP := Aside0.mk hfp; have L2 := Aside0.mk l2; have HL := Aside0.mk hl; have N4 := Aside0.mk n4; have HK := Aside0.mk hK
  have b2 : wrap64 ((i : Int) + 1) = ((i + 1 : Nat) : Int) := by unfold wrap64; omega
  have q1 := eq_true hi0; have q2 := eq_true hi1; have q3 : decide ((0 : Int) ≤ (i : Int)) = true := decide_eq_true hi0
  have HLM := Aside0.mk (show ms.length ≤ 3000 by omega)
  have N5_ := Aside0.mk N4.out.bnd; have ZW := Aside0.mk (Nat.le_refl wr.heap.size)
  clear hi h60 hl n4 g2 hfp l2 hK hi0 hi1
  conv => arg 2; whnf
  have t0 : (ok_ == 0) = false := by rw [hk2]; decide
  have t1 : (ok_ == 1) = false := by rw [hk2]; decide
  have t2 : (ok_ == 2) = true := by rw [hk2]; decide
  have t3 : (ok_ == 3) = false := by rw [hk2]; decide
  clear hk0 hk1 hk2
  obtain ⟨j, rfl⟩ := Int.eq_ofNat_of_zero_le hth
  have HJ := Aside0.mk (show j < ms.length by omega)
  have th1 : decide ((j : Int) ≥ 0) = true := decide_eq_true hth
  have th2 : decide (0 ≤ (j : Int)) = true := decide_eq_true hth
  have th3 : decide ((j : Int) < (ms.length : Int)) = true := decide_eq_true hlt
  have th4 : decide (j < ms.length) = true := decide_eq_true HJ.out
  have hj0 : (0 : Int) ≤ (j : Int) := hth
  have hj1 : (j : Int) < (ms.length : Int) := hlt
  have j1 := eq_true hj0; have j2 := eq_true hj1
  clear hth hlt
  go_wp2_with (first | ((with_reducible refine gate_dst (N := 6) rfl ?_); refine box_event ?hg (N := 6) ?hd (cs := #[.int .i64 0, .int .i64 0, .slice none 0 0]) (t := 28) ?hr ?_; (case hd => rfl); (case hg => rfl); (case hr => first | (go_simp; done) | (go_simp; rfl)); intro g6 hg w5m hbox hb; have ZB := Aside0.mk hb; have ZX := Aside0.mk hbox; have X5g := Aside0.mk (show wr.heap.size ≤ g6 from by rw [hg]; exact Nat.le_refl _); have o_zc0 : w5m.cell? ⟨g6, 0, none⟩ = some (.int .i64 0) := (blk_cell ZX.out 0).trans rfl; have o_zf0 := blk_frozen ZX.out 0; have o_zc1 : w5m.cell? ⟨g6, 1, none⟩ = some (.int .i64 0) := (blk_cell ZX.out 1).trans rfl; have o_zf1 := blk_frozen ZX.out 1; have o_zc2 : w5m.cell? ⟨g6, 2, none⟩ = some (.slice none 0 0) := (blk_cell ZX.out 2).trans rfl; have o_zf2 := blk_frozen ZX.out 2; clear hb hg hbox) | ((with_reducible refine gate_dst (N := 27) rfl ?_); have NB5 := Aside0.mk (below_setB (below_setB (below_setB ZB.out (p := ⟨g6, 0, none⟩) X5g.out (.int .i64 ok_)) (p := ⟨g6, 1, none⟩) X5g.out (.int .i64 (j : Int))) (p := ⟨g6, 2, none⟩) X5g.out (.slice A2 ps.length c2)); have X5 := Aside0.mk (blk_put (blk_put (blk_put ZX.out 0 (.int .i64 ok_) (cs' := #[.int .i64 ok_, .int .i64 0, .slice none 0 0]) rfl) 1 (.int .i64 (j : Int)) (cs' := #[.int .i64 ok_, .int .i64 (j : Int), .slice none 0 0]) rfl) 2 (.slice A2 ps.length c2) (cs' := #[.int .i64 ok_, .int .i64 (j : Int), .slice A2 ps.length c2]) rfl); clear ZB ZX o_zc0 o_zf0 o_zc1 o_zf1 o_zc2 o_zf2; generalize (((w5m.setCell ⟨g6, 0, none⟩ (.int .i64 ok_)).setCell ⟨g6, 1, none⟩ (.int .i64 (j : Int))).setCell ⟨g6, 2, none⟩ (.slice A2 ps.length c2)) = w5 at NB5 X5 ⊢; have N5 := Aside0.mk (N5_.out.below NB5.out); have o_c0 : w5.cell? ⟨g6, 0, none⟩ = some (.int .i64 ok_) := (blk_cell X5.out 0).trans rfl; have o_f0 := blk_frozen X5.out 0; have o_c1 : w5.cell? ⟨g6, 1, none⟩ = some (.int .i64 (j : Int)) := (blk_cell X5.out 1).trans rfl; have o_f1 := blk_frozen X5.out 1; have o_c2 : w5.cell? ⟨g6, 2, none⟩ = some (.slice A2 ps.length c2) := (blk_cell X5.out 2).trans rfl; have o_f2 := blk_frozen X5.out 2))
  clear d1 d2 d3 q1 q2 q3 y0 y1 y2
  refine (net_TwiceAll (i := j) N5.out.net HJ.out (by have := HLM.out; omega)).mono ?_; rintro x w7 ⟨rfl, hI, hb, hk⟩
  have N7_ := Aside0.mk (N5.out.op hI hb hk); have X6 := Aside0.mk ((hk.2 g6 (blk_lt X5.out) (fun q => absurd q.2 (Nat.not_lt.mpr X5g.out))).trans X5.out)
  clear o_c0 o_f0 o_c1 o_f1 o_c2 o_f2 hI hb hk
  have hcc := (MN.C N7_.out rfl).2
  obtain ⟨ad, A13, c13, A14, c14, ea, x0, x1, x2, x3, x4, x5, x6, x7, x8, x9, x10, x11, x12, x13, x14, l13, g13, l14, g14⟩ := at_L37 hcc.2 (j : Int) hj0 hj1
  subst ea
  obtain ⟨q, hq⟩ : ∃ q, q = rd_T37 ms (j : Int) := ⟨_, rfl⟩
  have hfit := N7_.out.fit _ (at_range37 HJ.out)
  rw [← hq] at x0 x1 x2 x3 x4 x5 x6 x7 x8 x9 x10 x11 x12 x13 x14 l13 g13 l14 g14 hfit
  rw [Int.toNat_natCast] at x0 x1 x2 x3 x4 x5 x6 x7 x8 x9 x10 x11 x12 x13 x14
  rw [← hq] at N7_
  have N7 := Aside0.mk N7_.out
  have K7 := Aside0.mk (k37_mk w q l13 g13 l14 g14)
  have FT := Aside0.mk hfit
  clear N7_ hcc hq hfit g13 g14 l13 l14
  have o_c0 : w7.cell? ⟨g6, 0, none⟩ = some (.int .i64 ok_) := (blk_cell X6.out 0).trans rfl; have o_f0 := blk_frozen X6.out 0; have o_c1 : w7.cell? ⟨g6, 1, none⟩ = some (.int .i64 (j : Int)) := (blk_cell X6.out 1).trans rfl; have o_f1 := blk_frozen X6.out 1; have o_c2 : w7.cell? ⟨g6, 2, none⟩ = some (.slice A2 ps.length c2) := (blk_cell X6.out 2).trans rfl; have o_f2 := blk_frozen X6.out 2
  go_wp2_with (first | ((with_reducible refine gate_dst (N := 126) rfl ?_); refine Kd.R_lit (lent w k37) (w0 := w) w.heap.size 37 ?hg (N := 126) ?hd (xs := [q]) (inner := [.int .i64 q.f0, .int .i64 q.f1, .int .i64 q.f2, .int .i64 q.f3, .int .i64 q.f4.f0, .int .i64 q.f4.f1.f0, .int .i64 q.f4.f1.f1, .int .i64 q.f4.f2, .int .i64 q.f4.f3, .int .i64 q.f4.f4, .int .i64 q.f4.f5, .int .i64 q.f4.f6, .bool q.f4.f7, .slice A13 q.f4.f8.length c13, .slice A14 q.f4.f9.length c14]) (ok := fun _ => True) (okp := fun _ => True) ?hr ?hp (fun _ hk => hk) trivial N7.out.bel N7.out.le (by simp) ?_; (case hd => rfl); (case hg => rfl); (case hr => first | (go_simp; done) | (go_simp; rfl)); (case hp => exact (Reps.snoc (Reps.none _ 15) (show (lent w k37).M _ _ _ q [.int .i64 q.f0, .int .i64 q.f1, .int .i64 q.f2, .int .i64 q.f3, .int .i64 q.f4.f0, .int .i64 q.f4.f1.f0, .int .i64 q.f4.f1.f1, .int .i64 q.f4.f2, .int .i64 q.f4.f3, .int .i64 q.f4.f4, .int .i64 q.f4.f5, .int .i64 q.f4.f6, .bool q.f4.f7, .slice A13 q.f4.f8.length c13, .slice A14 q.f4.f9.length c14] from K7.out) rfl)); intro vL w8 hoL hb hg_ hnew_; obtain ⟨AL, cL, eL, hcL, hrL⟩ := Kd.R_reads hoL; subst eL; have RL := Aside0.mk hrL; have N8 := Aside0.mk (N7.out.below ⟨hg_.os, hg_.tape, hg_.output, hg_.size, fun k hk => hg_.block k hk (by simp)⟩); clear hoL hb hg_ hnew_ hcL hrL N7 o_c0 o_f0 o_c1 o_f1 o_c2 o_f2) | ((with_reducible refine gate_builtin (b := .append) (xs := #[.tmp 120, .tmp 126]) rfl ?_); at_builtin; refine Kd.R_append_rows (lent w k37) (Rr := k37.K w) (w0 := w) w.heap.size rfl (.tmp 120) (.tmp 126) 24 37 (.agg #[.int .i64 0, .int .i64 0, .int .i64 0, .int .i64 0, .int .i64 0, .int .i64 0, .int .i64 0, .int .i64 0, .int .i64 0, .int .i64 0, .int .i64 0, .int .i64 0, .bool false, .slice none 0 0, .slice none 0 0]) 152 rfl Try.underlying24 info37_ rfl (show 0 < 15 by decide) (by omega) _ ms ([q]) _ _ _ (fun k => k ≠ g3) (fun _ => False) rfl rfl ?aO ?aR (fun _ _ h => h) (fun _ h => h.elim) ?aF ?aB ?aS ?aL ?_; (case aO => exact N8.out.row); (case aR => exact RL.out); (case aF => exact fun k hk e => by subst e; exact absurd N8.out.net.lt (Nat.not_lt.mpr hk)); (case aB => exact N8.out.bel); (case aS => exact N8.out.le); (case aL => have := HLM.out; simp only [List.length_singleton]; omega); intro v_ w9 ho hb hg hat; have N_ := MN.app N8.out ho hb hg hat (fit_app N8.out.fit (fun x hx => by rw [List.mem_singleton.1 hx]; exact FT.out)); obtain ⟨A20, c20, e20⟩ := Kd.R_slice ho; subst e20; have N9 := Aside0.mk N_; clear N_ ho hb hg hat))
  have z3 : (((ms ++ [q]).length : Int) != ((ms ++ [q]).length : Int)) = false := bne_self_eq_false _
  refine (net_Len N9.out.net).mono ?_; rintro x w90 ⟨rfl, hb⟩; have N90 := Aside0.mk (N9.out.below hb); clear hb
  go_wp2_with fail
  exact HK.out _ _ _ _ _ _ _ _ _ _ _ _ _ _ _ _ _ _ _ _ _ _ _ _ _ _ _ _ _ _ _ _ _ _ _ _ _ _ _ _ _ _ _ _ _ _ _ _ _ _ _ _ _ _ _ _ _ _ _ _ _ _ _ _ _ _ _ _ _ _ _ _ _ _ _ _ _ _ _ _ _ _ _ _ _ _ _ _ _ _ _ _ _ _ _ _ _ _ _ _ _ _ _ _ _ _ _ _ _ _ _ _ _ _ _ _ _ _ _ _ _ _ _ _ _ _ _ _ _ _ _ _ _ _ _ _ _ _ _ _ _ _ _ _ _ _ _ _ _ _ _ _ _ w90 (ms ++ [q]) (by first | rw [b2] | rfl) (by rw [List.length_append, List.length_singleton]; have := HL.out; omega) (by first | exact N90.out.any | (have h := N90.out.any; simp only [List.length_append, List.length_singleton] at h ⊢; exact h))
set_option maxHeartbeats 16000000 in
set_option maxRecDepth 100000 in
theorem np_3in {w wr : World} {l0 : List S28} {c0 g3 i c4 c2 : Nat} {ms ps : List S37} {A4 A2 : Option Addr} {ad0 : Addr} {ok_ oi : Int} {u2 u6 u7 u8 u9 u10 u11 u12 u24 u25 u26 u27 u28 u29 u30 u31 u32 u33 u34 u35 u36 u37 u38 u39 u40 u41 u42 u43 u44 u45 u46 u47 u48 u49 u50 u51 u52 u53 u54 u55 u56 u57 u58 u59 u60 u61 u62 u63 u64 u65 u66 u67 u68 u69 u70 u71 u72 u73 u74 u75 u76 u77 u78 u79 u80 u81 u82 u83 u84 u85 u86 u87 u88 u89 u90 u91 u92 u93 u94 u95 u96 u97 u98 u99 u100 u101 u102 u103 u104 u105 u106 u107 u108 u109 u110 u111 u112 u113 u114 u115 u116 u117 u118 u119 u120 u121 u122 u123 u124 u125 u126 u127 u128 u129 u130 u131 u132 u133 u134 u135 u136 u137 u138 u139 u140 u141 u142 u143 u144 u145 u146 u147 u148 u149 u150 u151 u152 u153 u154 u155 u156 u157 u158 u159 u160 u161 u162 u163 u164 u165 u166 : Value} {K K1 : Act → World → Prop}
    (hi : i < l0.length) (h60 : l0.length ≤ 60) (hl : ms.length ≤ 50 * i) (n4 : MN w wr g3 (.slice A4 ms.length c4) ms ms (fun _ => True))
    (y0 : wr.cell? (ad0.add (i * 3)) = some (.int .i64 ok_)) (y1 : wr.cell? ⟨(ad0.add (i * 3)).block, (ad0.add (i * 3)).off + 1, none⟩ = some (.int .i64 oi)) (y2 : wr.cell? ⟨(ad0.add (i * 3)).block, (ad0.add (i * 3)).off + 2, none⟩ = some (.slice A2 ps.length c2))
    (l2 : ps.length ≤ c2) (g2 : Kd.C k37 w A2 ps.length ps) (hfp : ∀ y ∈ ps, Fit y) (hk0 : ¬ok_ = 0) (hk1 : ¬ok_ = 1) (hk2 : ¬ok_ = 2) (hk3 : ok_ = 3) (hth : 0 ≤ oi) (hlt : oi < (ms.length : Int))
    (hK : ∀ (u2 u6 u7 u8 u9 u10 u11 u12 u24 u25 u26 u27 u28 u29 u30 u31 u32 u33 u34 u35 u36 u37 u38 u39 u40 u41 u42 u43 u44 u45 u46 u47 u48 u49 u50 u51 u52 u53 u54 u55 u56 u57 u58 u59 u60 u61 u62 u63 u64 u65 u66 u67 u68 u69 u70 u71 u72 u73 u74 u75 u76 u77 u78 u79 u80 u81 u82 u83 u84 u85 u86 u87 u88 u89 u90 u91 u92 u93 u94 u95 u96 u97 u98 u99 u100 u101 u102 u103 u104 u105 u106 u107 u108 u109 u110 u111 u112 u113 u114 u115 u116 u117 u118 u119 u120 u121 u122 u123 u124 u125 u126 u127 u128 u129 u130 u131 u132 u133 u134 u135 u136 u137 u138 u139 u140 u141 u142 u143 u144 u145 u146 u147 u148 u149 u150 u151 u152 u153 u154 u155 u156 u157 u158 u159 u160 u161 u162 u163 u164 u165 u166 v4 v23 : Value) (w' : World) (ms' : List S37), v23 = .int .i64 ((i + 1 : Nat) : Int) → ms'.length ≤ 50 * (i + 1) → MN w w' g3 v4 ms' ms' (fun _ => True) → K ⟨#[.slice (some ad0) l0.length c0, undef, u2, .pointer (some ⟨g3, 0, none⟩), v4, undef, u6, u7, u8, u9, u10, u11, u12, undef, undef, undef, .bool true, .bool false, .slice (some ad0) l0.length c0, .int .i64 (l0.length : Int), .bool false, .slice (some ad0) l0.length c0, .int .i64 (l0.length : Int), v23, u24, u25, u26, u27, u28, u29, u30, u31, u32, u33, u34, u35, u36, u37, u38, u39, u40, u41, u42, u43, u44, u45, u46, u47, u48, u49, u50, u51, u52, u53, u54, u55, u56, u57, u58, u59, u60, u61, u62, u63, u64, u65, u66, u67, u68, u69, u70, u71, u72, u73, u74, u75, u76, u77, u78, u79, u80, u81, u82, u83, u84, u85, u86, u87, u88, u89, u90, u91, u92, u93, u94, u95, u96, u97, u98, u99, u100, u101, u102, u103, u104, u105, u106, u107, u108, u109, u110, u111, u112, u113, u114, u115, u116, u117, u118, u119, u120, u121, u122, u123, u124, u125, u126, u127, u128, u129, u130, u131, u132, u133, u134, u135, u136, u137, u138, u139, u140, u141, u142, u143, u144, u145, u146, u147, u148, u149, u150, u151, u152, u153, u154, u155, u156, u157, u158, u159, u160, u161, u162, u163, u164, u165, u166, undef, undef, undef, undef, undef, undef, undef, undef, undef, undef, undef, undef, undef, undef, undef, undef, undef, undef, undef, undef, undef, undef], []⟩ w') :
    Code.wp Try.prog npBody (Exit.then K (Exit.inBlock 0 (Exit.then K1 (bodyPost Try.prog Try.f3 (fun e w' => e = .returned (.bool true) ∧ Below w.heap.size w w'))))) ⟨#[.slice (some ad0) l0.length c0, undef, u2, .pointer (some ⟨g3, 0, none⟩), .slice A4 ms.length c4, undef, u6, u7, u8, u9, u10, u11, u12, undef, undef, undef, .bool true, .bool false, .slice (some ad0) l0.length c0, .int .i64 (l0.length : Int), .bool false, .slice (some ad0) l0.length c0, .int .i64 (l0.length : Int), .int .i64 (i : Int), u24, u25, u26, u27, u28, u29, u30, u31, u32, u33, u34, u35, u36, u37, u38, u39, u40, u41, u42, u43, u44, u45, u46, u47, u48, u49, u50, u51, u52, u53, u54, u55, u56, u57, u58, u59, u60, u61, u62, u63, u64, u65, u66, u67, u68, u69, u70, u71, u72, u73, u74, u75, u76, u77, u78, u79, u80, u81, u82, u83, u84, u85, u86, u87, u88, u89, u90, u91, u92, u93, u94, u95, u96, u97, u98, u99, u100, u101, u102, u103, u104, u105, u106, u107, u108, u109, u110, u111, u112, u113, u114, u115, u116, u117, u118, u119, u120, u121, u122, u123, u124, u125, u126, u127, u128, u129, u130, u131, u132, u133, u134, u135, u136, u137, u138, u139, u140, u141, u142, u143, u144, u145, u146, u147, u148, u149, u150, u151, u152, u153, u154, u155, u156, u157, u158, u159, u160, u161, u162, u163, u164, u165, u166, undef, undef, undef, undef, undef, undef, undef, undef, undef, undef, undef, undef, undef, undef, undef, undef, undef, undef, undef, undef, undef, undef], []⟩ wr := by
  have d1 : decide ((i : Int) < (l0.length : Int)) = true := decide_eq_true (by omega)
  have d2 : decide (i < l0.length) = true := decide_eq_true hi
  have d3 : (i < l0.length) = True := eq_true hi
  have hi0 : (0 : Int) ≤ (i : Int) := by omega
  have hi1 : (i : Int) < (l0.length : Int) := by omega
  have G2 := Aside0.mk g2; have FP := Aside0.mk hfp; have L2 := Aside0.mk l2; have HL := Aside0.mk hl; have N4 := Aside0.mk n4; have HK := Aside0.mk hK
  have b2 : wrap64 ((i : Int) + 1) = ((i + 1 : Nat) : Int) := by unfold wrap64; omega
  have q1 := eq_true hi0; have q2 := eq_true hi1; have q3 : decide ((0 : Int) ≤ (i : Int)) = true := decide_eq_true hi0
  have HLM := Aside0.mk (show ms.length ≤ 3000 by omega)
  have N5_ := Aside0.mk N4.out.bnd; have ZW := Aside0.mk (Nat.le_refl wr.heap.size)
  clear hi h60 hl n4 g2 hfp l2 hK hi0 hi1
  conv => arg 2; whnf
  have t0 : (ok_ == 0) = false := by rw [hk3]; decide
  have t1 : (ok_ == 1) = false := by rw [hk3]; decide
  have t2 : (ok_ == 2) = false := by rw [hk3]; decide
  have t3 : (ok_ == 3) = true := by rw [hk3]; decide
  clear hk0 hk1 hk2 hk3
  obtain ⟨j, rfl⟩ := Int.eq_ofNat_of_zero_le hth
  have HJ := Aside0.mk (show j < ms.length by omega)
  have th1 : decide ((j : Int) ≥ 0) = true := decide_eq_true hth
  have th2 : decide (0 ≤ (j : Int)) = true := decide_eq_true hth
  have th3 : decide ((j : Int) < (ms.length : Int)) = true := decide_eq_true hlt
  have th4 : decide (j < ms.length) = true := decide_eq_true HJ.out
  have hj0 : (0 : Int) ≤ (j : Int) := hth
  have hj1 : (j : Int) < (ms.length : Int) := hlt
  have j1 := eq_true hj0; have j2 := eq_true hj1
  clear hth hlt
  go_wp2_with (first | ((with_reducible refine gate_dst (N := 6) rfl ?_); refine box_event ?hg (N := 6) ?hd (cs := #[.int .i64 0, .int .i64 0, .slice none 0 0]) (t := 28) ?hr ?_; (case hd => rfl); (case hg => rfl); (case hr => first | (go_simp; done) | (go_simp; rfl)); intro g6 hg w5m hbox hb; have ZB := Aside0.mk hb; have ZX := Aside0.mk hbox; have X5g := Aside0.mk (show wr.heap.size ≤ g6 from by rw [hg]; exact Nat.le_refl _); have o_zc0 : w5m.cell? ⟨g6, 0, none⟩ = some (.int .i64 0) := (blk_cell ZX.out 0).trans rfl; have o_zf0 := blk_frozen ZX.out 0; have o_zc1 : w5m.cell? ⟨g6, 1, none⟩ = some (.int .i64 0) := (blk_cell ZX.out 1).trans rfl; have o_zf1 := blk_frozen ZX.out 1; have o_zc2 : w5m.cell? ⟨g6, 2, none⟩ = some (.slice none 0 0) := (blk_cell ZX.out 2).trans rfl; have o_zf2 := blk_frozen ZX.out 2; clear hb hg hbox) | ((with_reducible refine gate_dst (N := 27) rfl ?_); have NB5 := Aside0.mk (below_setB (below_setB (below_setB ZB.out (p := ⟨g6, 0, none⟩) X5g.out (.int .i64 ok_)) (p := ⟨g6, 1, none⟩) X5g.out (.int .i64 (j : Int))) (p := ⟨g6, 2, none⟩) X5g.out (.slice A2 ps.length c2)); have X5 := Aside0.mk (blk_put (blk_put (blk_put ZX.out 0 (.int .i64 ok_) (cs' := #[.int .i64 ok_, .int .i64 0, .slice none 0 0]) rfl) 1 (.int .i64 (j : Int)) (cs' := #[.int .i64 ok_, .int .i64 (j : Int), .slice none 0 0]) rfl) 2 (.slice A2 ps.length c2) (cs' := #[.int .i64 ok_, .int .i64 (j : Int), .slice A2 ps.length c2]) rfl); clear ZB ZX o_zc0 o_zf0 o_zc1 o_zf1 o_zc2 o_zf2; generalize (((w5m.setCell ⟨g6, 0, none⟩ (.int .i64 ok_)).setCell ⟨g6, 1, none⟩ (.int .i64 (j : Int))).setCell ⟨g6, 2, none⟩ (.slice A2 ps.length c2)) = w5 at NB5 X5 ⊢; have N5 := Aside0.mk (N5_.out.below NB5.out); have o_c0 : w5.cell? ⟨g6, 0, none⟩ = some (.int .i64 ok_) := (blk_cell X5.out 0).trans rfl; have o_f0 := blk_frozen X5.out 0; have o_c1 : w5.cell? ⟨g6, 1, none⟩ = some (.int .i64 (j : Int)) := (blk_cell X5.out 1).trans rfl; have o_f1 := blk_frozen X5.out 1; have o_c2 : w5.cell? ⟨g6, 2, none⟩ = some (.slice A2 ps.length c2) := (blk_cell X5.out 2).trans rfl; have o_f2 := blk_frozen X5.out 2))
  clear d1 d2 d3 q1 q2 q3 y0 y1 y2
  refine (net_Look_ok (i := j) N5.out.net HJ.out).mono ?_; rintro x w7 ⟨v, rfl, ⟨v8, v9, rfl, hO, hQ⟩, hb⟩
  have N7 := Aside0.mk (N5.out.below hb); have X6 := Aside0.mk (blk_below X5.out hb)
  clear o_c0 o_f0 o_c1 o_f1 o_c2 o_f2
  have hcc := (MN.C N7.out rfl).2
  obtain ⟨ad, A13, c13, A14, c14, ea, x0, x1, x2, x3, x4, x5, x6, x7, x8, x9, x10, x11, x12, x13, x14, l13, g13, l14, g14⟩ := at_L37 hcc.2 (j : Int) hj0 hj1
  subst ea
  obtain ⟨q, hq⟩ : ∃ q, q = rd_T37 ms (j : Int) := ⟨_, rfl⟩
  have hfit := N7.out.fit _ (at_range37 HJ.out)
  rw [← hq] at x0 x1 x2 x3 x4 x5 x6 x7 x8 x9 x10 x11 x12 x13 x14 l13 g13 l14 g14 hfit
  rw [Int.toNat_natCast] at x0 x1 x2 x3 x4 x5 x6 x7 x8 x9 x10 x11 x12 x13 x14
  rw [← hq] at hO hQ ⊢
  have EX := Aside0.mk (show _ from (⟨x0, x1, x2, x3, x4, x5, x6, x7, x8, x9, x10, x11, x12, x13, x14⟩ : (w7.cell? (ad.add (j * 15)) = some (.int .i64 q.f0)) ∧ (w7.cell? ⟨(ad.add (j * 15)).block, (ad.add (j * 15)).off + 1, none⟩ = some (.int .i64 q.f1)) ∧ (w7.cell? ⟨(ad.add (j * 15)).block, (ad.add (j * 15)).off + 2, none⟩ = some (.int .i64 q.f2)) ∧ (w7.cell? ⟨(ad.add (j * 15)).block, (ad.add (j * 15)).off + 3, none⟩ = some (.int .i64 q.f3)) ∧ (w7.cell? ⟨(ad.add (j * 15)).block, (ad.add (j * 15)).off + 4, none⟩ = some (.int .i64 q.f4.f0)) ∧ (w7.cell? ⟨(ad.add (j * 15)).block, (ad.add (j * 15)).off + 5, none⟩ = some (.int .i64 q.f4.f1.f0)) ∧ (w7.cell? ⟨(ad.add (j * 15)).block, (ad.add (j * 15)).off + 6, none⟩ = some (.int .i64 q.f4.f1.f1)) ∧ (w7.cell? ⟨(ad.add (j * 15)).block, (ad.add (j * 15)).off + 7, none⟩ = some (.int .i64 q.f4.f2)) ∧ (w7.cell? ⟨(ad.add (j * 15)).block, (ad.add (j * 15)).off + 8, none⟩ = some (.int .i64 q.f4.f3)) ∧ (w7.cell? ⟨(ad.add (j * 15)).block, (ad.add (j * 15)).off + 9, none⟩ = some (.int .i64 q.f4.f4)) ∧ (w7.cell? ⟨(ad.add (j * 15)).block, (ad.add (j * 15)).off + 10, none⟩ = some (.int .i64 q.f4.f5)) ∧ (w7.cell? ⟨(ad.add (j * 15)).block, (ad.add (j * 15)).off + 11, none⟩ = some (.int .i64 q.f4.f6)) ∧ (w7.cell? ⟨(ad.add (j * 15)).block, (ad.add (j * 15)).off + 12, none⟩ = some (.bool q.f4.f7)) ∧ (w7.cell? ⟨(ad.add (j * 15)).block, (ad.add (j * 15)).off + 13, none⟩ = some (.slice A13 q.f4.f8.length c13)) ∧ (w7.cell? ⟨(ad.add (j * 15)).block, (ad.add (j * 15)).off + 14, none⟩ = some (.slice A14 q.f4.f9.length c14)))); have G13 := Aside0.mk g13; have G14 := Aside0.mk g14; have FT := Aside0.mk hfit; have HQ := Aside0.mk hq; have HCC := Aside0.mk hcc.1
  clear hcc hq hfit g13 g14 l13 l14 x0 x1 x2 x3 x4 x5 x6 x7 x8 x9 x10 x11 x12 x13 x14
  obtain ⟨A8, c8, e8, l8, hC8⟩ := Kd.R_reads hO; obtain ⟨A9, c9, e9, l9, hC9⟩ := Kd.R_reads hQ; subst e8 e9
  have O8 := Aside0.mk hC8; have Q8 := Aside0.mk hC9
  clear hO hQ hb l8 l9 hC8 hC9 
  dsimp only [pkV]
  go_upto_region 32 with (first | ((with_reducible refine gate_dst (N := 11) rfl ?_); refine box_event ?hg (N := 11) ?hd (cs := #[.int .i64 0, .int .i64 0, .int .i64 0, .int .i64 0, .int .i64 0, .int .i64 0, .int .i64 0, .int .i64 0, .int .i64 0, .int .i64 0, .int .i64 0, .int .i64 0, .bool false, .slice none 0 0, .slice none 0 0]) (t := 37) ?hr ?_; (case hd => rfl); (case hg => rfl); (case hr => first | (go_simp; done) | (go_simp; rfl)); intro g8 hg w8m hbox hb; have ZB := Aside0.mk hb; have ZX := Aside0.mk hbox; have X8g := Aside0.mk (show w7.heap.size ≤ g8 from by rw [hg]; exact Nat.le_refl _); have x_zc0 : w8m.cell? ⟨g8, 0, none⟩ = some (.int .i64 0) := (blk_cell ZX.out 0).trans rfl; have x_zf0 := blk_frozen ZX.out 0; have x_zc1 : w8m.cell? ⟨g8, 1, none⟩ = some (.int .i64 0) := (blk_cell ZX.out 1).trans rfl; have x_zf1 := blk_frozen ZX.out 1; have x_zc2 : w8m.cell? ⟨g8, 2, none⟩ = some (.int .i64 0) := (blk_cell ZX.out 2).trans rfl; have x_zf2 := blk_frozen ZX.out 2; have x_zc3 : w8m.cell? ⟨g8, 3, none⟩ = some (.int .i64 0) := (blk_cell ZX.out 3).trans rfl; have x_zf3 := blk_frozen ZX.out 3; have x_zc4 : w8m.cell? ⟨g8, 4, none⟩ = some (.int .i64 0) := (blk_cell ZX.out 4).trans rfl; have x_zf4 := blk_frozen ZX.out 4; have x_zc5 : w8m.cell? ⟨g8, 5, none⟩ = some (.int .i64 0) := (blk_cell ZX.out 5).trans rfl; have x_zf5 := blk_frozen ZX.out 5; have x_zc6 : w8m.cell? ⟨g8, 6, none⟩ = some (.int .i64 0) := (blk_cell ZX.out 6).trans rfl; have x_zf6 := blk_frozen ZX.out 6; have x_zc7 : w8m.cell? ⟨g8, 7, none⟩ = some (.int .i64 0) := (blk_cell ZX.out 7).trans rfl; have x_zf7 := blk_frozen ZX.out 7; have x_zc8 : w8m.cell? ⟨g8, 8, none⟩ = some (.int .i64 0) := (blk_cell ZX.out 8).trans rfl; have x_zf8 := blk_frozen ZX.out 8; have x_zc9 : w8m.cell? ⟨g8, 9, none⟩ = some (.int .i64 0) := (blk_cell ZX.out 9).trans rfl; have x_zf9 := blk_frozen ZX.out 9; have x_zc10 : w8m.cell? ⟨g8, 10, none⟩ = some (.int .i64 0) := (blk_cell ZX.out 10).trans rfl; have x_zf10 := blk_frozen ZX.out 10; have x_zc11 : w8m.cell? ⟨g8, 11, none⟩ = some (.int .i64 0) := (blk_cell ZX.out 11).trans rfl; have x_zf11 := blk_frozen ZX.out 11; have x_zc12 : w8m.cell? ⟨g8, 12, none⟩ = some (.bool false) := (blk_cell ZX.out 12).trans rfl; have x_zf12 := blk_frozen ZX.out 12; have x_zc13 : w8m.cell? ⟨g8, 13, none⟩ = some (.slice none 0 0) := (blk_cell ZX.out 13).trans rfl; have x_zf13 := blk_frozen ZX.out 13; have x_zc14 : w8m.cell? ⟨g8, 14, none⟩ = some (.slice none 0 0) := (blk_cell ZX.out 14).trans rfl; have x_zf14 := blk_frozen ZX.out 14; clear hb hg hbox))
  have NB8 := Aside0.mk (below_setB (below_setB (below_setB (below_setB (below_setB (below_setB (below_setB (below_setB (below_setB (below_setB (below_setB (below_setB (below_setB (below_setB (below_setB ZB.out (p := ⟨g8, 0, none⟩) X8g.out (.int .i64 q.f0)) (p := ⟨g8, 1, none⟩) X8g.out (.int .i64 q.f1)) (p := ⟨g8, 2, none⟩) X8g.out (.int .i64 q.f2)) (p := ⟨g8, 3, none⟩) X8g.out (.int .i64 q.f3)) (p := ⟨g8, 4, none⟩) X8g.out (.int .i64 q.f4.f0)) (p := ⟨g8, 5, none⟩) X8g.out (.int .i64 q.f4.f1.f0)) (p := ⟨g8, 6, none⟩) X8g.out (.int .i64 q.f4.f1.f1)) (p := ⟨g8, 7, none⟩) X8g.out (.int .i64 q.f4.f2)) (p := ⟨g8, 8, none⟩) X8g.out (.int .i64 q.f4.f3)) (p := ⟨g8, 9, none⟩) X8g.out (.int .i64 q.f4.f4)) (p := ⟨g8, 10, none⟩) X8g.out (.int .i64 q.f4.f5)) (p := ⟨g8, 11, none⟩) X8g.out (.int .i64 q.f4.f6)) (p := ⟨g8, 12, none⟩) X8g.out (.bool q.f4.f7)) (p := ⟨g8, 13, none⟩) X8g.out (.slice A8 q.f4.f8.length c8)) (p := ⟨g8, 14, none⟩) X8g.out (.slice A9 q.f4.f9.length c9)); have X8 := Aside0.mk (blk_put (blk_put (blk_put (blk_put (blk_put (blk_put (blk_put (blk_put (blk_put (blk_put (blk_put (blk_put (blk_put (blk_put (blk_put ZX.out 0 (.int .i64 q.f0) (cs' := #[.int .i64 q.f0, .int .i64 0, .int .i64 0, .int .i64 0, .int .i64 0, .int .i64 0, .int .i64 0, .int .i64 0, .int .i64 0, .int .i64 0, .int .i64 0, .int .i64 0, .bool false, .slice none 0 0, .slice none 0 0]) rfl) 1 (.int .i64 q.f1) (cs' := #[.int .i64 q.f0, .int .i64 q.f1, .int .i64 0, .int .i64 0, .int .i64 0, .int .i64 0, .int .i64 0, .int .i64 0, .int .i64 0, .int .i64 0, .int .i64 0, .int .i64 0, .bool false, .slice none 0 0, .slice none 0 0]) rfl) 2 (.int .i64 q.f2) (cs' := #[.int .i64 q.f0, .int .i64 q.f1, .int .i64 q.f2, .int .i64 0, .int .i64 0, .int .i64 0, .int .i64 0, .int .i64 0, .int .i64 0, .int .i64 0, .int .i64 0, .int .i64 0, .bool false, .slice none 0 0, .slice none 0 0]) rfl) 3 (.int .i64 q.f3) (cs' := #[.int .i64 q.f0, .int .i64 q.f1, .int .i64 q.f2, .int .i64 q.f3, .int .i64 0, .int .i64 0, .int .i64 0, .int .i64 0, .int .i64 0, .int .i64 0, .int .i64 0, .int .i64 0, .bool false, .slice none 0 0, .slice none 0 0]) rfl) 4 (.int .i64 q.f4.f0) (cs' := #[.int .i64 q.f0, .int .i64 q.f1, .int .i64 q.f2, .int .i64 q.f3, .int .i64 q.f4.f0, .int .i64 0, .int .i64 0, .int .i64 0, .int .i64 0, .int .i64 0, .int .i64 0, .int .i64 0, .bool false, .slice none 0 0, .slice none 0 0]) rfl) 5 (.int .i64 q.f4.f1.f0) (cs' := #[.int .i64 q.f0, .int .i64 q.f1, .int .i64 q.f2, .int .i64 q.f3, .int .i64 q.f4.f0, .int .i64 q.f4.f1.f0, .int .i64 0, .int .i64 0, .int .i64 0, .int .i64 0, .int .i64 0, .int .i64 0, .bool false, .slice none 0 0, .slice none 0 0]) rfl) 6 (.int .i64 q.f4.f1.f1) (cs' := #[.int .i64 q.f0, .int .i64 q.f1, .int .i64 q.f2, .int .i64 q.f3, .int .i64 q.f4.f0, .int .i64 q.f4.f1.f0, .int .i64 q.f4.f1.f1, .int .i64 0, .int .i64 0, .int .i64 0, .int .i64 0, .int .i64 0, .bool false, .slice none 0 0, .slice none 0 0]) rfl) 7 (.int .i64 q.f4.f2) (cs' := #[.int .i64 q.f0, .int .i64 q.f1, .int .i64 q.f2, .int .i64 q.f3, .int .i64 q.f4.f0, .int .i64 q.f4.f1.f0, .int .i64 q.f4.f1.f1, .int .i64 q.f4.f2, .int .i64 0, .int .i64 0, .int .i64 0, .int .i64 0, .bool false, .slice none 0 0, .slice none 0 0]) rfl) 8 (.int .i64 q.f4.f3) (cs' := #[.int .i64 q.f0, .int .i64 q.f1, .int .i64 q.f2, .int .i64 q.f3, .int .i64 q.f4.f0, .int .i64 q.f4.f1.f0, .int .i64 q.f4.f1.f1, .int .i64 q.f4.f2, .int .i64 q.f4.f3, .int .i64 0, .int .i64 0, .int .i64 0, .bool false, .slice none 0 0, .slice none 0 0]) rfl) 9 (.int .i64 q.f4.f4) (cs' := #[.int .i64 q.f0, .int .i64 q.f1, .int .i64 q.f2, .int .i64 q.f3, .int .i64 q.f4.f0, .int .i64 q.f4.f1.f0, .int .i64 q.f4.f1.f1, .int .i64 q.f4.f2, .int .i64 q.f4.f3, .int .i64 q.f4.f4, .int .i64 0, .int .i64 0, .bool false, .slice none 0 0, .slice none 0 0]) rfl) 10 (.int .i64 q.f4.f5) (cs' := #[.int .i64 q.f0, .int .i64 q.f1, .int .i64 q.f2, .int .i64 q.f3, .int .i64 q.f4.f0, .int .i64 q.f4.f1.f0, .int .i64 q.f4.f1.f1, .int .i64 q.f4.f2, .int .i64 q.f4.f3, .int .i64 q.f4.f4, .int .i64 q.f4.f5, .int .i64 0, .bool false, .slice none 0 0, .slice none 0 0]) rfl) 11 (.int .i64 q.f4.f6) (cs' := #[.int .i64 q.f0, .int .i64 q.f1, .int .i64 q.f2, .int .i64 q.f3, .int .i64 q.f4.f0, .int .i64 q.f4.f1.f0, .int .i64 q.f4.f1.f1, .int .i64 q.f4.f2, .int .i64 q.f4.f3, .int .i64 q.f4.f4, .int .i64 q.f4.f5, .int .i64 q.f4.f6, .bool false, .slice none 0 0, .slice none 0 0]) rfl) 12 (.bool q.f4.f7) (cs' := #[.int .i64 q.f0, .int .i64 q.f1, .int .i64 q.f2, .int .i64 q.f3, .int .i64 q.f4.f0, .int .i64 q.f4.f1.f0, .int .i64 q.f4.f1.f1, .int .i64 q.f4.f2, .int .i64 q.f4.f3, .int .i64 q.f4.f4, .int .i64 q.f4.f5, .int .i64 q.f4.f6, .bool q.f4.f7, .slice none 0 0, .slice none 0 0]) rfl) 13 (.slice A8 q.f4.f8.length c8) (cs' := #[.int .i64 q.f0, .int .i64 q.f1, .int .i64 q.f2, .int .i64 q.f3, .int .i64 q.f4.f0, .int .i64 q.f4.f1.f0, .int .i64 q.f4.f1.f1, .int .i64 q.f4.f2, .int .i64 q.f4.f3, .int .i64 q.f4.f4, .int .i64 q.f4.f5, .int .i64 q.f4.f6, .bool q.f4.f7, .slice A8 q.f4.f8.length c8, .slice none 0 0]) rfl) 14 (.slice A9 q.f4.f9.length c9) (cs' := #[.int .i64 q.f0, .int .i64 q.f1, .int .i64 q.f2, .int .i64 q.f3, .int .i64 q.f4.f0, .int .i64 q.f4.f1.f0, .int .i64 q.f4.f1.f1, .int .i64 q.f4.f2, .int .i64 q.f4.f3, .int .i64 q.f4.f4, .int .i64 q.f4.f5, .int .i64 q.f4.f6, .bool q.f4.f7, .slice A8 q.f4.f8.length c8, .slice A9 q.f4.f9.length c9]) rfl); clear ZB ZX x_zc0 x_zf0 x_zc1 x_zf1 x_zc2 x_zf2 x_zc3 x_zf3 x_zc4 x_zf4 x_zc5 x_zf5 x_zc6 x_zf6 x_zc7 x_zf7 x_zc8 x_zf8 x_zc9 x_zf9 x_zc10 x_zf10 x_zc11 x_zf11 x_zc12 x_zf12 x_zc13 x_zf13 x_zc14 x_zf14; generalize (((((((((((((((w8m.setCell ⟨g8, 0, none⟩ (.int .i64 q.f0)).setCell ⟨g8, 1, none⟩ (.int .i64 q.f1)).setCell ⟨g8, 2, none⟩ (.int .i64 q.f2)).setCell ⟨g8, 3, none⟩ (.int .i64 q.f3)).setCell ⟨g8, 4, none⟩ (.int .i64 q.f4.f0)).setCell ⟨g8, 5, none⟩ (.int .i64 q.f4.f1.f0)).setCell ⟨g8, 6, none⟩ (.int .i64 q.f4.f1.f1)).setCell ⟨g8, 7, none⟩ (.int .i64 q.f4.f2)).setCell ⟨g8, 8, none⟩ (.int .i64 q.f4.f3)).setCell ⟨g8, 9, none⟩ (.int .i64 q.f4.f4)).setCell ⟨g8, 10, none⟩ (.int .i64 q.f4.f5)).setCell ⟨g8, 11, none⟩ (.int .i64 q.f4.f6)).setCell ⟨g8, 12, none⟩ (.bool q.f4.f7)).setCell ⟨g8, 13, none⟩ (.slice A8 q.f4.f8.length c8)).setCell ⟨g8, 14, none⟩ (.slice A9 q.f4.f9.length c9)) = w8 at NB8 X8 ⊢; have N8 := Aside0.mk (N7.out.below NB8.out); have Y8 := Aside0.mk (blk_below X6.out NB8.out); 
  refine start_ (n := 26) (S := fun w' => w'.cell? ⟨g8, 0, none⟩ = some (.int .i64 q.f0) ∧ w'.cell? ⟨g8, 1, none⟩ = some (.int .i64 q.f1) ∧ w'.cell? ⟨g8, 2, none⟩ = some (.int .i64 q.f2) ∧ w'.cell? ⟨g8, 3, none⟩ = some (.int .i64 q.f3) ∧ w'.cell? ⟨g8, 4, none⟩ = some (.int .i64 q.f4.f0) ∧ w'.cell? ⟨g8, 5, none⟩ = some (.int .i64 q.f4.f1.f0) ∧ w'.cell? ⟨g8, 6, none⟩ = some (.int .i64 q.f4.f1.f1) ∧ w'.cell? ⟨g8, 7, none⟩ = some (.int .i64 q.f4.f2) ∧ w'.cell? ⟨g8, 8, none⟩ = some (.int .i64 q.f4.f3) ∧ w'.cell? ⟨g8, 9, none⟩ = some (.int .i64 q.f4.f4) ∧ w'.cell? ⟨g8, 10, none⟩ = some (.int .i64 q.f4.f5) ∧ w'.cell? ⟨g8, 11, none⟩ = some (.int .i64 q.f4.f6) ∧ w'.cell? ⟨g8, 12, none⟩ = some (.bool q.f4.f7) ∧ w'.cell? ⟨g8, 13, none⟩ = some (.slice A8 q.f4.f8.length c8) ∧ w'.cell? ⟨g8, 14, none⟩ = some (.slice A9 q.f4.f9.length c9) ∧ w'.cell? (ad.add (j * 15)) = some (.int .i64 q.f0) ∧ w'.cell? ⟨(ad.add (j * 15)).block, (ad.add (j * 15)).off + 1, none⟩ = some (.int .i64 q.f1) ∧ w'.cell? ⟨(ad.add (j * 15)).block, (ad.add (j * 15)).off + 2, none⟩ = some (.int .i64 q.f2) ∧ w'.cell? ⟨(ad.add (j * 15)).block, (ad.add (j * 15)).off + 3, none⟩ = some (.int .i64 q.f3) ∧ w'.cell? ⟨(ad.add (j * 15)).block, (ad.add (j * 15)).off + 4, none⟩ = some (.int .i64 q.f4.f0) ∧ w'.cell? ⟨(ad.add (j * 15)).block, (ad.add (j * 15)).off + 5, none⟩ = some (.int .i64 q.f4.f1.f0) ∧ w'.cell? ⟨(ad.add (j * 15)).block, (ad.add (j * 15)).off + 6, none⟩ = some (.int .i64 q.f4.f1.f1) ∧ w'.cell? ⟨(ad.add (j * 15)).block, (ad.add (j * 15)).off + 7, none⟩ = some (.int .i64 q.f4.f2) ∧ w'.cell? ⟨(ad.add (j * 15)).block, (ad.add (j * 15)).off + 8, none⟩ = some (.int .i64 q.f4.f3) ∧ w'.cell? ⟨(ad.add (j * 15)).block, (ad.add (j * 15)).off + 9, none⟩ = some (.int .i64 q.f4.f4) ∧ w'.cell? ⟨(ad.add (j * 15)).block, (ad.add (j * 15)).off + 10, none⟩ = some (.int .i64 q.f4.f5) ∧ w'.cell? ⟨(ad.add (j * 15)).block, (ad.add (j * 15)).off + 11, none⟩ = some (.int .i64 q.f4.f6) ∧ w'.cell? ⟨(ad.add (j * 15)).block, (ad.add (j * 15)).off + 12, none⟩ = some (.bool q.f4.f7) ∧ w'.cell? ⟨(ad.add (j * 15)).block, (ad.add (j * 15)).off + 13, none⟩ = some (.slice A13 q.f4.f8.length c13) ∧ w'.cell? ⟨(ad.add (j * 15)).block, (ad.add (j * 15)).off + 14, none⟩ = some (.slice A14 q.f4.f9.length c14) ∧ w'.cell? ⟨g6, 1, none⟩ = some (.int .i64 (j : Int))) (ds := [13]) #[false, false, false, false, false, false, false, false, false, false, false, false, false, false, false, false, false, false, false, false, false, false, false, false, false, false] (by kernel_rfl) rfl rfl ⟨(blk_cell (blk_drew X8.out) 0).trans rfl, (blk_cell (blk_drew X8.out) 1).trans rfl, (blk_cell (blk_drew X8.out) 2).trans rfl, (blk_cell (blk_drew X8.out) 3).trans rfl, (blk_cell (blk_drew X8.out) 4).trans rfl, (blk_cell (blk_drew X8.out) 5).trans rfl, (blk_cell (blk_drew X8.out) 6).trans rfl, (blk_cell (blk_drew X8.out) 7).trans rfl, (blk_cell (blk_drew X8.out) 8).trans rfl, (blk_cell (blk_drew X8.out) 9).trans rfl, (blk_cell (blk_drew X8.out) 10).trans rfl, (blk_cell (blk_drew X8.out) 11).trans rfl, (blk_cell (blk_drew X8.out) 12).trans rfl, (blk_cell (blk_drew X8.out) 13).trans rfl, (blk_cell (blk_drew X8.out) 14).trans rfl, cell_bel (w := w7) EX.out.1 (below_drew NB8.out), cell_bel (w := w7) EX.out.2.1 (below_drew NB8.out), cell_bel (w := w7) EX.out.2.2.1 (below_drew NB8.out), cell_bel (w := w7) EX.out.2.2.2.1 (below_drew NB8.out), cell_bel (w := w7) EX.out.2.2.2.2.1 (below_drew NB8.out), cell_bel (w := w7) EX.out.2.2.2.2.2.1 (below_drew NB8.out), cell_bel (w := w7) EX.out.2.2.2.2.2.2.1 (below_drew NB8.out), cell_bel (w := w7) EX.out.2.2.2.2.2.2.2.1 (below_drew NB8.out), cell_bel (w := w7) EX.out.2.2.2.2.2.2.2.2.1 (below_drew NB8.out), cell_bel (w := w7) EX.out.2.2.2.2.2.2.2.2.2.1 (below_drew NB8.out), cell_bel (w := w7) EX.out.2.2.2.2.2.2.2.2.2.2.1 (below_drew NB8.out), cell_bel (w := w7) EX.out.2.2.2.2.2.2.2.2.2.2.2.1 (below_drew NB8.out), cell_bel (w := w7) EX.out.2.2.2.2.2.2.2.2.2.2.2.2.1 (below_drew NB8.out), cell_bel (w := w7) EX.out.2.2.2.2.2.2.2.2.2.2.2.2.2.1 (below_drew NB8.out), cell_bel (w := w7) EX.out.2.2.2.2.2.2.2.2.2.2.2.2.2.2 (below_drew NB8.out), (blk_cell (blk_drew Y8.out) 1).trans rfl⟩ (fun hHeld => ?_)
  refine pure_ (i := 0) (N := some 136) (v := ?_) (a' := ?_) #[true, false, false, false, false, false, false, false, false, false, false, false, false, false, false, false, false, false, false, false, false, false, false, false, false, false] rfl rfl (by kernel_rfl) (fun _ _ _ h => h) (Or.inl ⟨by rfl, ?_⟩) ?_ ?_
  rotate_left
  · intro w'
    go_simp
    with_reducible rfl
  rotate_left
  · simp only [Act.put, List.setIfInBounds_toArray, List.set_cons_zero, List.set_cons_succ, i64_w, i32_w]
    rfl
  refine pure_ (i := 1) (N := some 137) (v := ?_) (a' := ?_) #[true, true, false, false, false, false, false, false, false, false, false, false, false, false, false, false, false, false, false, false, false, false, false, false, false, false] rfl rfl (by kernel_rfl) (fun _ _ _ h => h) (Or.inl ⟨by rfl, ?_⟩) ?_ ?_
  rotate_left
  · intro w'
    go_simp
    with_reducible rfl
  rotate_left
  · simp only [Act.put, List.setIfInBounds_toArray, List.set_cons_zero, List.set_cons_succ, i64_w, i32_w]
    rfl
  refine pure_ (i := 2) (N := some 138) (v := ?_) (a' := ?_) #[true, true, true, false, false, false, false, false, false, false, false, false, false, false, false, false, false, false, false, false, false, false, false, false, false, false] rfl rfl (by kernel_rfl) (fun _ _ _ h => h) (Or.inl ⟨by rfl, ?_⟩) ?_ ?_
  rotate_left
  · intro w'
    go_simp
    with_reducible rfl
  rotate_left
  · simp only [Act.put, List.setIfInBounds_toArray, List.set_cons_zero, List.set_cons_succ, i64_w, i32_w]
    rfl
  refine pure_ (i := 3) (N := some 139) (v := ?_) (a' := ?_) #[true, true, true, true, false, false, false, false, false, false, false, false, false, false, false, false, false, false, false, false, false, false, false, false, false, false] rfl rfl (by kernel_rfl) (fun _ _ _ h => h) (Or.inl ⟨by rfl, ?_⟩) ?_ ?_
  rotate_left
  · intro w'
    go_simp
    with_reducible rfl
  rotate_left
  · simp only [Act.put, List.setIfInBounds_toArray, List.set_cons_zero, List.set_cons_succ, i64_w, i32_w]
    rfl
  refine pure_ (i := 4) (N := some 140) (v := ?_) (a' := ?_) #[true, true, true, true, true, false, false, false, false, false, false, false, false, false, false, false, false, false, false, false, false, false, false, false, false, false] rfl rfl (by kernel_rfl) (fun _ _ _ h => h) (Or.inl ⟨by rfl, ?_⟩) ?_ ?_
  rotate_left
  · intro w'
    go_simp
    with_reducible rfl
  rotate_left
  · simp only [Act.put, List.setIfInBounds_toArray, List.set_cons_zero, List.set_cons_succ, i64_w, i32_w]
    rfl
  refine pure_ (i := 5) (N := some 141) (v := ?_) (a' := ?_) #[true, true, true, true, true, true, false, false, false, false, false, false, false, false, false, false, false, false, false, false, false, false, false, false, false, false] rfl rfl (by kernel_rfl) (fun _ _ _ h => h) (Or.inl ⟨by rfl, ?_⟩) ?_ ?_
  rotate_left
  · intro w'
    go_simp
    with_reducible rfl
  rotate_left
  · simp only [Act.put, List.setIfInBounds_toArray, List.set_cons_zero, List.set_cons_succ, i64_w, i32_w]
    rfl
  refine pure_ (i := 6) (N := some 142) (v := ?_) (a' := ?_) #[true, true, true, true, true, true, true, false, false, false, false, false, false, false, false, false, false, false, false, false, false, false, false, false, false, false] rfl rfl (by kernel_rfl) (fun _ _ _ h => h) (Or.inl ⟨by rfl, ?_⟩) ?_ ?_
  rotate_left
  · intro w'
    go_simp
    with_reducible rfl
  rotate_left
  · simp only [Act.put, List.setIfInBounds_toArray, List.set_cons_zero, List.set_cons_succ, i64_w, i32_w]
    rfl
  refine pure_ (i := 8) (N := some 144) (v := ?_) (a' := ?_) #[true, true, true, true, true, true, true, false, true, false, false, false, false, false, false, false, false, false, false, false, false, false, false, false, false, false] rfl rfl (by kernel_rfl) (fun _ _ _ h => h) (Or.inl ⟨by rfl, ?_⟩) ?_ ?_
  rotate_left
  · intro w'
    go_simp
    with_reducible rfl
  rotate_left
  · simp only [Act.put, List.setIfInBounds_toArray, List.set_cons_zero, List.set_cons_succ, i64_w, i32_w]
    rfl
  refine pure_ (i := 9) (N := some 145) (v := ?_) (a' := ?_) #[true, true, true, true, true, true, true, false, true, true, false, false, false, false, false, false, false, false, false, false, false, false, false, false, false, false] rfl rfl (by kernel_rfl) (fun _ _ _ h => h) (Or.inl ⟨by rfl, ?_⟩) ?_ ?_
  rotate_left
  · intro w'
    go_simp
    with_reducible rfl
  rotate_left
  · simp only [Act.put, List.setIfInBounds_toArray, List.set_cons_zero, List.set_cons_succ, i64_w, i32_w]
    rfl
  refine take_ (i := 7) (N := some 143) (v := ?_) (a' := ?_) #[true, true, true, true, true, true, true, true, true, true, false, false, false, false, false, false, false, false, false, false, false, false, false, false, false, false] rfl rfl (by kernel_rfl) (fun _ _ _ h => h) (Or.inl ⟨by rfl, ?_⟩) hHeld ?_ ?_
  rotate_left
  · rintro w' ⟨s0, s1, s2, s3, s4, s5, s6, s7, s8, s9, s10, s11, s12, s13, s14, s15, s16, s17, s18, s19, s20, s21, s22, s23, s24, s25, s26, s27, s28, s29, s30⟩
    go_simp
    with_reducible rfl
  rotate_left
  · simp only [Act.put, List.setIfInBounds_toArray, List.set_cons_zero, List.set_cons_succ, i64_w, i32_w]
    rfl
  refine take_ (i := 10) (N := some 146) (v := ?_) (a' := ?_) #[true, true, true, true, true, true, true, true, true, true, true, false, false, false, false, false, false, false, false, false, false, false, false, false, false, false] rfl rfl (by kernel_rfl) (fun _ _ _ h => h) (Or.inl ⟨by rfl, ?_⟩) hHeld ?_ ?_
  rotate_left
  · rintro w' ⟨s0, s1, s2, s3, s4, s5, s6, s7, s8, s9, s10, s11, s12, s13, s14, s15, s16, s17, s18, s19, s20, s21, s22, s23, s24, s25, s26, s27, s28, s29, s30⟩
    go_simp
    with_reducible rfl
  rotate_left
  · simp only [Act.put, List.setIfInBounds_toArray, List.set_cons_zero, List.set_cons_succ, i64_w, i32_w]
    rfl
  refine pure_ (i := 11) (N := some 147) (v := ?_) (a' := ?_) #[true, true, true, true, true, true, true, true, true, true, true, true, false, false, false, false, false, false, false, false, false, false, false, false, false, false] rfl rfl (by kernel_rfl) (fun _ _ _ h => h) (Or.inl ⟨by rfl, ?_⟩) ?_ ?_
  rotate_left
  · intro w'
    go_simp
    with_reducible rfl
  rotate_left
  · simp only [Act.put, List.setIfInBounds_toArray, List.set_cons_zero, List.set_cons_succ, i64_w, i32_w]
    rfl
  refine take_ (i := 12) (N := some 148) (v := ?_) (a' := ?_) #[true, true, true, true, true, true, true, true, true, true, true, true, true, false, false, false, false, false, false, false, false, false, false, false, false, false] rfl rfl (by kernel_rfl) (fun _ _ _ h => h) (Or.inl ⟨by rfl, ?_⟩) hHeld ?_ ?_
  rotate_left
  · rintro w' ⟨s0, s1, s2, s3, s4, s5, s6, s7, s8, s9, s10, s11, s12, s13, s14, s15, s16, s17, s18, s19, s20, s21, s22, s23, s24, s25, s26, s27, s28, s29, s30⟩
    go_simp
    with_reducible rfl
  rotate_left
  · simp only [Act.put, List.setIfInBounds_toArray, List.set_cons_zero, List.set_cons_succ, i64_w, i32_w]
    rfl
  refine last_ (i := 13) (N := some 149) #[true, true, true, true, true, true, true, true, true, true, true, true, true, true, false, false, false, false, false, false, false, false, false, false, false, false] rfl rfl (by kernel_rfl) (by decide) (fun K hK => ?_)
  refine goes_ Try.func14 (by kernel_rfl) rfl #[.agg #[.int .i64 q.f0, .int .i64 q.f1, .int .i64 q.f2, .int .i64 q.f3, .int .i64 q.f4.f0, .int .i64 q.f4.f1.f0, .int .i64 q.f4.f1.f1, .int .i64 q.f4.f2, .int .i64 q.f4.f3, .int .i64 q.f4.f4, .int .i64 q.f4.f5, .int .i64 q.f4.f6, .bool q.f4.f7, .slice A8 q.f4.f8.length c8, .slice A9 q.f4.f9.length c9], .agg #[.int .i64 q.f0, .int .i64 q.f1, .int .i64 q.f2, .int .i64 q.f3, .int .i64 q.f4.f0, .int .i64 q.f4.f1.f0, .int .i64 q.f4.f1.f1, .int .i64 q.f4.f2, .int .i64 q.f4.f3, .int .i64 q.f4.f4, .int .i64 q.f4.f5, .int .i64 q.f4.f6, .bool q.f4.f7, .slice A13 q.f4.f8.length c13, .slice A14 q.f4.f9.length c14]] (by rfl) rfl rfl (by simp only [List.map_toArray, List.map_cons, List.map_nil]; rfl) ?_
  with_reducible refine (psame_calls (p := q) (w := w8.drew) (Kd.C_below O8.out (below_drew NB8.out)) (Kd.C_below Q8.out (below_drew NB8.out)) (Kd.C_below G13.out (below_drew N8.out.bel)) (Kd.C_below G14.out (below_drew N8.out.bel)) FT.out).mono ?_
  rintro x w9 ⟨rfl, hb⟩
  refine ⟨_, rfl, ?_⟩
  have N9 := Aside0.mk ((N8.out.drew).below hb)
  have Y9 := Aside0.mk (blk_below (blk_drew Y8.out) hb)
  clear hb
  refine hK.out _ _ ?_
  clear hK K
  refine norm_ (a' := ?_) ?_ ?_
  rotate_left
  · show Act.put _ (some 149) _ = _
    simp only [Act.put, List.setIfInBounds_toArray, List.set_cons_zero, List.set_cons_succ, i64_w, i32_w]
    rfl
  refine pure_ (i := 14) (N := some 150) (v := ?_) (a' := ?_) #[true, true, true, true, true, true, true, true, true, true, true, true, true, true, true, false, false, false, false, false, false, false, false, false, false, false] rfl rfl (by kernel_rfl) (fun _ _ _ h => h) (Or.inl ⟨by rfl, ?_⟩) ?_ ?_
  rotate_left
  · intro w'
    go_simp
    with_reducible rfl
  rotate_left
  · simp only [Act.put, List.setIfInBounds_toArray, List.set_cons_zero, List.set_cons_succ, i64_w, i32_w]
    rfl
  refine pure_ (i := 15) (N := some 151) (v := ?_) (a' := ?_) #[true, true, true, true, true, true, true, true, true, true, true, true, true, true, true, true, false, false, false, false, false, false, false, false, false, false] rfl rfl (by kernel_rfl) (fun _ _ _ h => h) (Or.inl ⟨by rfl, ?_⟩) ?_ ?_
  rotate_left
  · intro w'
    go_simp
    with_reducible rfl
  rotate_left
  · simp only [Act.put, List.setIfInBounds_toArray, List.set_cons_zero, List.set_cons_succ, i64_w, i32_w]
    rfl
  refine pure_ (i := 16) (N := some 152) (v := ?_) (a' := ?_) #[true, true, true, true, true, true, true, true, true, true, true, true, true, true, true, true, true, false, false, false, false, false, false, false, false, false] rfl rfl (by kernel_rfl) (fun _ _ _ h => h) (Or.inl ⟨by rfl, ?_⟩) ?_ ?_
  rotate_left
  · intro w'
    go_simp
    with_reducible rfl
  rotate_left
  · simp only [Act.put, List.setIfInBounds_toArray, List.set_cons_zero, List.set_cons_succ, i64_w, i32_w]
    rfl
  refine pure_ (i := 17) (N := some 153) (v := ?_) (a' := ?_) #[true, true, true, true, true, true, true, true, true, true, true, true, true, true, true, true, true, true, false, false, false, false, false, false, false, false] rfl rfl (by kernel_rfl) (fun _ _ _ h => h) (Or.inl ⟨by rfl, ?_⟩) ?_ ?_
  rotate_left
  · intro w'
    go_simp
    with_reducible rfl
  rotate_left
  · simp only [Act.put, List.setIfInBounds_toArray, List.set_cons_zero, List.set_cons_succ, i64_w, i32_w]
    rfl
  refine pure_ (i := 18) (N := some 154) (v := ?_) (a' := ?_) #[true, true, true, true, true, true, true, true, true, true, true, true, true, true, true, true, true, true, true, false, false, false, false, false, false, false] rfl rfl (by kernel_rfl) (fun _ _ _ h => h) (Or.inl ⟨by rfl, ?_⟩) ?_ ?_
  rotate_left
  · intro w'
    go_simp
    with_reducible rfl
  rotate_left
  · simp only [Act.put, List.setIfInBounds_toArray, List.set_cons_zero, List.set_cons_succ, i64_w, i32_w]
    rfl
  refine pure_ (i := 19) (N := some 155) (v := ?_) (a' := ?_) #[true, true, true, true, true, true, true, true, true, true, true, true, true, true, true, true, true, true, true, true, false, false, false, false, false, false] rfl rfl (by kernel_rfl) (fun _ _ _ h => h) (Or.inl ⟨by rfl, ?_⟩) ?_ ?_
  rotate_left
  · intro w'
    go_simp
    with_reducible rfl
  rotate_left
  · simp only [Act.put, List.setIfInBounds_toArray, List.set_cons_zero, List.set_cons_succ, i64_w, i32_w]
    rfl
  refine pure_ (i := 20) (N := some 156) (v := ?_) (a' := ?_) #[true, true, true, true, true, true, true, true, true, true, true, true, true, true, true, true, true, true, true, true, true, false, false, false, false, false] rfl rfl (by kernel_rfl) (fun _ _ _ h => h) (Or.inl ⟨by rfl, ?_⟩) ?_ ?_
  rotate_left
  · intro w'
    go_simp
    with_reducible rfl
  rotate_left
  · simp only [Act.put, List.setIfInBounds_toArray, List.set_cons_zero, List.set_cons_succ, i64_w, i32_w]
    rfl
  refine pure_ (i := 21) (N := some 157) (v := undef) (a' := ?_) #[true, true, true, true, true, true, true, true, true, true, true, true, true, true, true, true, true, true, true, true, true, true, false, false, false, false] rfl rfl (by kernel_rfl) (fun _ _ _ h => h) (Or.inr ⟨by rfl, rfl⟩) ?_ ?_
  rotate_left
  · simp only [Act.put, List.setIfInBounds_toArray, List.set_cons_zero, List.set_cons_succ, i64_w, i32_w]
    rfl
  refine pure_ (i := 22) (N := some 158) (v := undef) (a' := ?_) #[true, true, true, true, true, true, true, true, true, true, true, true, true, true, true, true, true, true, true, true, true, true, true, false, false, false] rfl rfl (by kernel_rfl) (fun _ _ _ h => h) (Or.inr ⟨by rfl, rfl⟩) ?_ ?_
  rotate_left
  · simp only [Act.put, List.setIfInBounds_toArray, List.set_cons_zero, List.set_cons_succ, i64_w, i32_w]
    rfl
  refine pure_ (i := 23) (N := some 159) (v := undef) (a' := ?_) #[true, true, true, true, true, true, true, true, true, true, true, true, true, true, true, true, true, true, true, true, true, true, true, true, false, false] rfl rfl (by kernel_rfl) (fun _ _ _ h => h) (Or.inr ⟨by rfl, rfl⟩) ?_ ?_
  rotate_left
  · simp only [Act.put, List.setIfInBounds_toArray, List.set_cons_zero, List.set_cons_succ, i64_w, i32_w]
    rfl
  refine pure_ (i := 24) (N := some 160) (v := ?_) (a' := ?_) #[true, true, true, true, true, true, true, true, true, true, true, true, true, true, true, true, true, true, true, true, true, true, true, true, true, false] rfl rfl (by kernel_rfl) (fun _ _ _ h => h) (Or.inl ⟨by rfl, ?_⟩) ?_ ?_
  rotate_left
  · intro w'
    go_simp
    with_reducible rfl
  rotate_left
  · simp only [Act.put, List.setIfInBounds_toArray, List.set_cons_zero, List.set_cons_succ, i64_w, i32_w]
    rfl
  refine pure_ (i := 25) (N := some 161) (v := ?_) (a' := ?_) #[true, true, true, true, true, true, true, true, true, true, true, true, true, true, true, true, true, true, true, true, true, true, true, true, true, true] rfl rfl (by kernel_rfl) (fun _ _ _ h => h) (Or.inl ⟨by rfl, ?_⟩) ?_ ?_
  rotate_left
  · intro w'
    go_simp
    with_reducible rfl
  rotate_left
  · simp only [Act.put, List.setIfInBounds_toArray, List.set_cons_zero, List.set_cons_succ, i64_w, i32_w]
    rfl
  refine done_ (by kernel_rfl) ?_
  go_wp2_with fail
  refine (net_Len N9.out.net).mono ?_; rintro x w90 ⟨rfl, hb⟩; have N90 := Aside0.mk (N9.out.below hb); clear hb
  go_wp2_with fail
  exact HK.out _ _ _ _ _ _ _ _ _ _ _ _ _ _ _ _ _ _ _ _ _ _ _ _ _ _ _ _ _ _ _ _ _ _ _ _ _ _ _ _ _ _ _ _ _ _ _ _ _ _ _ _ _ _ _ _ _ _ _ _ _ _ _ _ _ _ _ _ _ _ _ _ _ _ _ _ _ _ _ _ _ _ _ _ _ _ _ _ _ _ _ _ _ _ _ _ _ _ _ _ _ _ _ _ _ _ _ _ _ _ _ _ _ _ _ _ _ _ _ _ _ _ _ _ _ _ _ _ _ _ _ _ _ _ _ _ _ _ _ _ _ _ _ _ _ _ _ _ _ _ _ _ _ w90 (ms) (by first | rw [b2] | rfl) (by have := HL.out; omega) (by first | exact N90.out.any | (have h := N90.out.any; simp only [List.length_append, List.length_singleton] at h ⊢; exact h))
set_option maxHeartbeats 16000000 in
set_option maxRecDepth 100000 in
theorem np_4in {w wr : World} {l0 : List S28} {c0 g3 i c4 c2 : Nat} {ms ps : List S37} {A4 A2 : Option Addr} {ad0 : Addr} {ok_ oi : Int} {u2 u6 u7 u8 u9 u10 u11 u12 u24 u25 u26 u27 u28 u29 u30 u31 u32 u33 u34 u35 u36 u37 u38 u39 u40 u41 u42 u43 u44 u45 u46 u47 u48 u49 u50 u51 u52 u53 u54 u55 u56 u57 u58 u59 u60 u61 u62 u63 u64 u65 u66 u67 u68 u69 u70 u71 u72 u73 u74 u75 u76 u77 u78 u79 u80 u81 u82 u83 u84 u85 u86 u87 u88 u89 u90 u91 u92 u93 u94 u95 u96 u97 u98 u99 u100 u101 u102 u103 u104 u105 u106 u107 u108 u109 u110 u111 u112 u113 u114 u115 u116 u117 u118 u119 u120 u121 u122 u123 u124 u125 u126 u127 u128 u129 u130 u131 u132 u133 u134 u135 u136 u137 u138 u139 u140 u141 u142 u143 u144 u145 u146 u147 u148 u149 u150 u151 u152 u153 u154 u155 u156 u157 u158 u159 u160 u161 u162 u163 u164 u165 u166 : Value} {K K1 : Act → World → Prop}
    (hi : i < l0.length) (h60 : l0.length ≤ 60) (hl : ms.length ≤ 50 * i) (n4 : MN w wr g3 (.slice A4 ms.length c4) ms ms (fun _ => True))
    (y0 : wr.cell? (ad0.add (i * 3)) = some (.int .i64 ok_)) (y1 : wr.cell? ⟨(ad0.add (i * 3)).block, (ad0.add (i * 3)).off + 1, none⟩ = some (.int .i64 oi)) (y2 : wr.cell? ⟨(ad0.add (i * 3)).block, (ad0.add (i * 3)).off + 2, none⟩ = some (.slice A2 ps.length c2))
    (l2 : ps.length ≤ c2) (g2 : Kd.C k37 w A2 ps.length ps) (hfp : ∀ y ∈ ps, Fit y) (hk0 : ¬ok_ = 0) (hk1 : ¬ok_ = 1) (hk2 : ¬ok_ = 2) (hk3 : ¬ok_ = 3) (hth : 0 ≤ oi) (hlt : oi < (ms.length : Int))
    (hK : ∀ (u2 u6 u7 u8 u9 u10 u11 u12 u24 u25 u26 u27 u28 u29 u30 u31 u32 u33 u34 u35 u36 u37 u38 u39 u40 u41 u42 u43 u44 u45 u46 u47 u48 u49 u50 u51 u52 u53 u54 u55 u56 u57 u58 u59 u60 u61 u62 u63 u64 u65 u66 u67 u68 u69 u70 u71 u72 u73 u74 u75 u76 u77 u78 u79 u80 u81 u82 u83 u84 u85 u86 u87 u88 u89 u90 u91 u92 u93 u94 u95 u96 u97 u98 u99 u100 u101 u102 u103 u104 u105 u106 u107 u108 u109 u110 u111 u112 u113 u114 u115 u116 u117 u118 u119 u120 u121 u122 u123 u124 u125 u126 u127 u128 u129 u130 u131 u132 u133 u134 u135 u136 u137 u138 u139 u140 u141 u142 u143 u144 u145 u146 u147 u148 u149 u150 u151 u152 u153 u154 u155 u156 u157 u158 u159 u160 u161 u162 u163 u164 u165 u166 v4 v23 : Value) (w' : World) (ms' : List S37), v23 = .int .i64 ((i + 1 : Nat) : Int) → ms'.length ≤ 50 * (i + 1) → MN w w' g3 v4 ms' ms' (fun _ => True) → K ⟨#[.slice (some ad0) l0.length c0, undef, u2, .pointer (some ⟨g3, 0, none⟩), v4, undef, u6, u7, u8, u9, u10, u11, u12, undef, undef, undef, .bool true, .bool false, .slice (some ad0) l0.length c0, .int .i64 (l0.length : Int), .bool false, .slice (some ad0) l0.length c0, .int .i64 (l0.length : Int), v23, u24, u25, u26, u27, u28, u29, u30, u31, u32, u33, u34, u35, u36, u37, u38, u39, u40, u41, u42, u43, u44, u45, u46, u47, u48, u49, u50, u51, u52, u53, u54, u55, u56, u57, u58, u59, u60, u61, u62, u63, u64, u65, u66, u67, u68, u69, u70, u71, u72, u73, u74, u75, u76, u77, u78, u79, u80, u81, u82, u83, u84, u85, u86, u87, u88, u89, u90, u91, u92, u93, u94, u95, u96, u97, u98, u99, u100, u101, u102, u103, u104, u105, u106, u107, u108, u109, u110, u111, u112, u113, u114, u115, u116, u117, u118, u119, u120, u121, u122, u123, u124, u125, u126, u127, u128, u129, u130, u131, u132, u133, u134, u135, u136, u137, u138, u139, u140, u141, u142, u143, u144, u145, u146, u147, u148, u149, u150, u151, u152, u153, u154, u155, u156, u157, u158, u159, u160, u161, u162, u163, u164, u165, u166, undef, undef, undef, undef, undef, undef, undef, undef, undef, undef, undef, undef, undef, undef, undef, undef, undef, undef, undef, undef, undef, undef], []⟩ w') :
    Code.wp Try.prog npBody (Exit.then K (Exit.inBlock 0 (Exit.then K1 (bodyPost Try.prog Try.f3 (fun e w' => e = .returned (.bool true) ∧ Below w.heap.size w w'))))) ⟨#[.slice (some ad0) l0.length c0, undef, u2, .pointer (some ⟨g3, 0, none⟩), .slice A4 ms.length c4, undef, u6, u7, u8, u9, u10, u11, u12, undef, undef, undef, .bool true, .bool false, .slice (some ad0) l0.length c0, .int .i64 (l0.length : Int), .bool false, .slice (some ad0) l0.length c0, .int .i64 (l0.length : Int), .int .i64 (i : Int), u24, u25, u26, u27, u28, u29, u30, u31, u32, u33, u34, u35, u36, u37, u38, u39, u40, u41, u42, u43, u44, u45, u46, u47, u48, u49, u50, u51, u52, u53, u54, u55, u56, u57, u58, u59, u60, u61, u62, u63, u64, u65, u66, u67, u68, u69, u70, u71, u72, u73, u74, u75, u76, u77, u78, u79, u80, u81, u82, u83, u84, u85, u86, u87, u88, u89, u90, u91, u92, u93, u94, u95, u96, u97, u98, u99, u100, u101, u102, u103, u104, u105, u106, u107, u108, u109, u110, u111, u112, u113, u114, u115, u116, u117, u118, u119, u120, u121, u122, u123, u124, u125, u126, u127, u128, u129, u130, u131, u132, u133, u134, u135, u136, u137, u138, u139, u140, u141, u142, u143, u144, u145, u146, u147, u148, u149, u150, u151, u152, u153, u154, u155, u156, u157, u158, u159, u160, u161, u162, u163, u164, u165, u166, undef, undef, undef, undef, undef, undef, undef, undef, undef, undef, undef, undef, undef, undef, undef, undef, undef, undef, undef, undef, undef, undef], []⟩ wr := by
  have d1 : decide ((i : Int) < (l0.length : Int)) = true := decide_eq_true (by omega)
  have d2 : decide (i < l0.length) = true := decide_eq_true hi
  have d3 : (i < l0.length) = True := eq_true hi
  have hi0 : (0 : Int) ≤ (i : Int) := by omega
  have hi1 : (i : Int) < (l0.length : Int) := by omega
  have G2 := Aside0.mk g2; have FP := Aside0.mk hfp; have L2 := Aside0.mk l2; have HL := Aside0.mk hl; have N4 := Aside0.mk n4; have HK := Aside0.mk hK
  have b2 : wrap64 ((i : Int) + 1) = ((i + 1 : Nat) : Int) := by unfold wrap64; omega
  have q1 := eq_true hi0; have q2 := eq_true hi1; have q3 : decide ((0 : Int) ≤ (i : Int)) = true := decide_eq_true hi0
  have HLM := Aside0.mk (show ms.length ≤ 3000 by omega)
  have N5_ := Aside0.mk N4.out.bnd; have ZW := Aside0.mk (Nat.le_refl wr.heap.size)
  clear hi h60 hl n4 g2 hfp l2 hK hi0 hi1
  conv => arg 2; whnf
  have t0 : (ok_ == 0) = false := beq_eq_false_iff_ne.mpr hk0
  have t1 : (ok_ == 1) = false := beq_eq_false_iff_ne.mpr hk1
  have t2 : (ok_ == 2) = false := beq_eq_false_iff_ne.mpr hk2
  have t3 : (ok_ == 3) = false := beq_eq_false_iff_ne.mpr hk3
  clear hk0 hk1 hk2 hk3
  obtain ⟨j, rfl⟩ := Int.eq_ofNat_of_zero_le hth
  have HJ := Aside0.mk (show j < ms.length by omega)
  have th1 : decide ((j : Int) ≥ 0) = true := decide_eq_true hth
  have th2 : decide (0 ≤ (j : Int)) = true := decide_eq_true hth
  have th3 : decide ((j : Int) < (ms.length : Int)) = true := decide_eq_true hlt
  have th4 : decide (j < ms.length) = true := decide_eq_true HJ.out
  have hj0 : (0 : Int) ≤ (j : Int) := hth
  have hj1 : (j : Int) < (ms.length : Int) := hlt
  have j1 := eq_true hj0; have j2 := eq_true hj1
  clear hth hlt
  go_wp2_with (first | ((with_reducible refine gate_dst (N := 6) rfl ?_); refine box_event ?hg (N := 6) ?hd (cs := #[.int .i64 0, .int .i64 0, .slice none 0 0]) (t := 28) ?hr ?_; (case hd => rfl); (case hg => rfl); (case hr => first | (go_simp; done) | (go_simp; rfl)); intro g6 hg w5m hbox hb; have ZB := Aside0.mk hb; have ZX := Aside0.mk hbox; have X5g := Aside0.mk (show wr.heap.size ≤ g6 from by rw [hg]; exact Nat.le_refl _); have o_zc0 : w5m.cell? ⟨g6, 0, none⟩ = some (.int .i64 0) := (blk_cell ZX.out 0).trans rfl; have o_zf0 := blk_frozen ZX.out 0; have o_zc1 : w5m.cell? ⟨g6, 1, none⟩ = some (.int .i64 0) := (blk_cell ZX.out 1).trans rfl; have o_zf1 := blk_frozen ZX.out 1; have o_zc2 : w5m.cell? ⟨g6, 2, none⟩ = some (.slice none 0 0) := (blk_cell ZX.out 2).trans rfl; have o_zf2 := blk_frozen ZX.out 2; clear hb hg hbox) | ((with_reducible refine gate_dst (N := 27) rfl ?_); have NB5 := Aside0.mk (below_setB (below_setB (below_setB ZB.out (p := ⟨g6, 0, none⟩) X5g.out (.int .i64 ok_)) (p := ⟨g6, 1, none⟩) X5g.out (.int .i64 (j : Int))) (p := ⟨g6, 2, none⟩) X5g.out (.slice A2 ps.length c2)); have X5 := Aside0.mk (blk_put (blk_put (blk_put ZX.out 0 (.int .i64 ok_) (cs' := #[.int .i64 ok_, .int .i64 0, .slice none 0 0]) rfl) 1 (.int .i64 (j : Int)) (cs' := #[.int .i64 ok_, .int .i64 (j : Int), .slice none 0 0]) rfl) 2 (.slice A2 ps.length c2) (cs' := #[.int .i64 ok_, .int .i64 (j : Int), .slice A2 ps.length c2]) rfl); clear ZB ZX o_zc0 o_zf0 o_zc1 o_zf1 o_zc2 o_zf2; generalize (((w5m.setCell ⟨g6, 0, none⟩ (.int .i64 ok_)).setCell ⟨g6, 1, none⟩ (.int .i64 (j : Int))).setCell ⟨g6, 2, none⟩ (.slice A2 ps.length c2)) = w5 at NB5 X5 ⊢; have N5 := Aside0.mk (N5_.out.below NB5.out); have o_c0 : w5.cell? ⟨g6, 0, none⟩ = some (.int .i64 ok_) := (blk_cell X5.out 0).trans rfl; have o_f0 := blk_frozen X5.out 0; have o_c1 : w5.cell? ⟨g6, 1, none⟩ = some (.int .i64 (j : Int)) := (blk_cell X5.out 1).trans rfl; have o_f1 := blk_frozen X5.out 1; have o_c2 : w5.cell? ⟨g6, 2, none⟩ = some (.slice A2 ps.length c2) := (blk_cell X5.out 2).trans rfl; have o_f2 := blk_frozen X5.out 2))
  clear d1 d2 d3 q1 q2 q3 y0 y1 y2
  refine (net_Len N5.out.net).mono ?_; rintro x w90 ⟨rfl, hb⟩; have N90 := Aside0.mk (N5.out.below hb); clear hb
  go_wp2_with fail
  exact HK.out _ _ _ _ _ _ _ _ _ _ _ _ _ _ _ _ _ _ _ _ _ _ _ _ _ _ _ _ _ _ _ _ _ _ _ _ _ _ _ _ _ _ _ _ _ _ _ _ _ _ _ _ _ _ _ _ _ _ _ _ _ _ _ _ _ _ _ _ _ _ _ _ _ _ _ _ _ _ _ _ _ _ _ _ _ _ _ _ _ _ _ _ _ _ _ _ _ _ _ _ _ _ _ _ _ _ _ _ _ _ _ _ _ _ _ _ _ _ _ _ _ _ _ _ _ _ _ _ _ _ _ _ _ _ _ _ _ _ _ _ _ _ _ _ _ _ _ _ _ _ _ _ _ w90 (ms) (by first | rw [b2] | rfl) (by have := HL.out; omega) (by first | exact N90.out.any | (have h := N90.out.any; simp only [List.length_append, List.length_singleton] at h ⊢; exact h))
end Go.Proofs.Ythgdojaildccaaa.Pure
