/-
  ClockPlays' round, case by case.
-/
import Derived.Test.YtdodaepdghlolaaHClockPlays1
namespace Go.Proofs.Ytdodaepdghlolaa.Pure
open Go.RowKit Go.Proofs.Ytdodaepdghlolaa.M Go.Proofs.YtdodaepdghlolaaW.PrintWords Go.Proofs.YtdodaepdghlolaaW.PrintLast Go.Proofs.YtdodaepdghlolaaW.PrintMore Go.Proofs.Ytdodaepdghlolaa.Pure
set_option linter.unusedVariables false
set_option linter.unusedSimpArgs false
open Clk
set_option maxHeartbeats 32000000 in
set_option maxRecDepth 100000 in
theorem cp_tick {w w1 w3 : World} {A0 : Option Addr} {c0 : Nat} {l0 : List S41} {ask : ByteArray} {g g6 i : Nat} {d : List Du} {now turns : Int} {A : Option Addr} {c : Nat} {P Q : Nat → Prop} {u4 u8 u9 u10 u11 u12 u13 u14 u15 u16 u17 u18 u19 u29 u30 u31 u32 u33 u34 u35 u36 u37 u38 u39 u40 u41 u42 u43 u44 u45 u46 u47 u48 u49 u50 u51 u52 u53 u54 u55 u56 u57 u58 u59 u60 u61 u62 u63 u64 u65 u66 u67 u68 u69 u70 u71 u72 u73 u74 u75 u76 u77 u78 u79 u80 u81 u82 u83 u84 u85 u86 u87 u88 u89 u90 u91 u92 u93 u94 u95 u96 u97 u98 u99 u100 u101 u102 u103 u104 u105 u106 u107 u108 u109 u110 u111 u112 u113 u114 u115 u116 u117 u118 u119 u120 u121 u122 u123 u124 u125 u126 u127 u128 u129 u130 u131 u132 u133 u134 u135 u136 u137 u138 u139 u140 u141 u142 u143 u144 u145 u146 u147 u148 u149 : Value} {K K1 : Act → World → Prop}
    (HR : Aside0 (Kd.C k41 w A0 l0.length l0)) (HG : Aside0 (∀ x ∈ l0, G41 x)) (HAS : Aside0 (ask.size ≤ 9223372036854775807)) (H100 : Aside0 (l0.length ≤ 100)) (B1 : Aside0 (Below w.heap.size w w1)) (G6 : Aside0 (w1.heap.size ≤ g6)) (hi : i < l0.length)
    (CC : Aside0 (Ck w1.heap.size P w3 g now turns d)) (RR : Aside0 (Kd.R k51 51 w3 w1.heap.size Q (.slice A d.length c) (V d))) (X3 : Aside0 (w3.heap[g6]? = some (.cells #[.int .i64 now, .slice A d.length c] 39 (0, 0)))) (JJ : Aside0 (DJ P Q g6)) (HST : Aside0 (St i now turns d)) (B3 : Aside0 (Below w1.heap.size w1 w3))
    (hk : (rd_T41 l0 (i : Int)).f0 = 2) (HK : Aside0 (∀ (u4 u8 u9 u10 u11 u12 u13 u14 u15 u16 u17 u18 u19 u29 u30 u31 u32 u33 u34 u35 u36 u37 u38 u39 u40 u41 u42 u43 u44 u45 u46 u47 u48 u49 u50 u51 u52 u53 u54 u55 u56 u57 u58 u59 u60 u61 u62 u63 u64 u65 u66 u67 u68 u69 u70 u71 u72 u73 u74 u75 u76 u77 u78 u79 u80 u81 u82 u83 u84 u85 u86 u87 u88 u89 u90 u91 u92 u93 u94 u95 u96 u97 u98 u99 u100 u101 u102 u103 u104 u105 u106 u107 u108 u109 u110 u111 u112 u113 u114 u115 u116 u117 u118 u119 u120 u121 u122 u123 u124 u125 u126 u127 u128 u129 u130 u131 u132 u133 u134 u135 u136 u137 u138 u139 u140 u141 u142 u143 u144 u145 u146 u147 u148 u149 v28 : Value) (w' : World) (d : List Du) (now turns : Int) (A : Option Addr) (c : Nat) (P Q : Nat → Prop), v28 = .int .i64 ((i + 1 : Nat) : Int) → Ck w1.heap.size P w' g now turns d → Kd.R k51 51 w' w1.heap.size Q (.slice A d.length c) (V d) → w'.heap[g6]? = some (.cells #[.int .i64 now, .slice A d.length c] 39 (0, 0)) → DJ P Q g6 → St (i + 1) now turns d → Below w1.heap.size w1 w' → K ⟨#[.slice A0 l0.length c0, .string ask, undef, undef, u4, .pointer (some ⟨g, 0, none⟩), .pointer (some ⟨g6, 0, none⟩), undef, u8, u9, u10, u11, u12, u13, u14, u15, u16, u17, u18, u19, .bool true, .bool false, .slice A0 l0.length c0, .int .i64 (l0.length : Int), .bool false, .pointer (some ⟨g, 0, none⟩), .slice A0 l0.length c0, .int .i64 (l0.length : Int), v28, u29, u30, u31, u32, u33, u34, u35, u36, u37, u38, u39, u40, u41, u42, u43, u44, u45, u46, u47, u48, u49, u50, u51, u52, u53, u54, u55, u56, u57, u58, u59, u60, u61, u62, u63, u64, u65, u66, u67, u68, u69, u70, u71, u72, u73, u74, u75, u76, u77, u78, u79, u80, u81, u82, u83, u84, u85, u86, u87, u88, u89, u90, u91, u92, u93, u94, u95, u96, u97, u98, u99, u100, u101, u102, u103, u104, u105, u106, u107, u108, u109, u110, u111, u112, u113, u114, u115, u116, u117, u118, u119, u120, u121, u122, u123, u124, u125, u126, u127, u128, u129, u130, u131, u132, u133, u134, u135, u136, u137, u138, u139, u140, u141, u142, u143, u144, u145, u146, u147, u148, u149], []⟩ w')) :
    Code.wp Try.prog cpBody (Exit.then K (Exit.inBlock 0 (Exit.then K1 (bodyPost Try.prog Try.f6 (fun e w' => e = .returned (.bool true) ∧ Below w.heap.size w w'))))) ⟨#[.slice A0 l0.length c0, .string ask, undef, undef, u4, .pointer (some ⟨g, 0, none⟩), .pointer (some ⟨g6, 0, none⟩), undef, u8, u9, u10, u11, u12, u13, u14, u15, u16, u17, u18, u19, .bool true, .bool false, .slice A0 l0.length c0, .int .i64 (l0.length : Int), .bool false, .pointer (some ⟨g, 0, none⟩), .slice A0 l0.length c0, .int .i64 (l0.length : Int), .int .i64 (i : Int), u29, u30, u31, u32, u33, u34, u35, u36, u37, u38, u39, u40, u41, u42, u43, u44, u45, u46, u47, u48, u49, u50, u51, u52, u53, u54, u55, u56, u57, u58, u59, u60, u61, u62, u63, u64, u65, u66, u67, u68, u69, u70, u71, u72, u73, u74, u75, u76, u77, u78, u79, u80, u81, u82, u83, u84, u85, u86, u87, u88, u89, u90, u91, u92, u93, u94, u95, u96, u97, u98, u99, u100, u101, u102, u103, u104, u105, u106, u107, u108, u109, u110, u111, u112, u113, u114, u115, u116, u117, u118, u119, u120, u121, u122, u123, u124, u125, u126, u127, u128, u129, u130, u131, u132, u133, u134, u135, u136, u137, u138, u139, u140, u141, u142, u143, u144, u145, u146, u147, u148, u149], []⟩ w3 := by
  conv => arg 2; whnf
  have d1 : decide ((i : Int) < (l0.length : Int)) = true := decide_eq_true (by omega)
  have d2 : decide (i < l0.length) = true := decide_eq_true hi
  have d3 : (i < l0.length) = True := eq_true hi
  have hi0 : (0 : Int) ≤ (i : Int) := by omega
  have hi1 : (i : Int) < (l0.length : Int) := by omega
  obtain ⟨ad0, ea, x0, x1, x2⟩ := at_T41 (Kd.C_below HR.out (below_step B1.out B3.out)) (i : Int) hi0 hi1
  subst ea
  obtain ⟨kd, hkd⟩ : ∃ z, z = (rd_T41 l0 (i : Int)).f0 := ⟨_, rfl⟩
  obtain ⟨lt, hlt⟩ : ∃ z, z = (rd_T41 l0 (i : Int)).f1 := ⟨_, rfl⟩
  obtain ⟨s, hs⟩ : ∃ z, z = (rd_T41 l0 (i : Int)).f2 := ⟨_, rfl⟩
  rw [← hkd] at x0
  rw [← hlt] at x1
  rw [← hs] at x2
  rw [Int.toNat_natCast] at x0 x1 x2
  have HSZ := Aside0.mk (show s.size ≤ 9223372036854775807 from by
    have := HG.out (rd_T41 l0 (i : Int)) (by unfold rd_T41; rw [Int.toNat_natCast, List.getD_eq_getElem?_getD, List.getElem?_eq_getElem hi]; exact List.getElem_mem hi)
    rw [hs]; exact Nat.le_trans this.2.2 (by decide))
  have b2_ : wrap64 ((i : Int) + 1) = ((i + 1 : Nat) : Int) := by have := H100.out; unfold wrap64; omega
  have q1 := eq_true hi0; have q2 := eq_true hi1; have q3 : decide ((0 : Int) ≤ (i : Int)) = true := decide_eq_true hi0
  have HIL := Aside0.mk (show i < 100 by have := H100.out; omega)
  have C3 := Aside0.mk CC.out.bnd; have R3 := Aside0.mk (R_lim RR.out)
  have J3 := Aside0.mk (show DJ (fun k => P k ∧ k < w3.heap.size) (fun k => Q k ∧ k < w3.heap.size) g6 from ⟨fun k h1 h2 => JJ.out.1 k h1.1 h2.1, fun h => JJ.out.2.1 h.1, fun h => JJ.out.2.2 h.1⟩)
  have HPL := Aside0.mk (show ∀ k, (fun k => P k ∧ k < w3.heap.size) k → k < w3.heap.size from fun k h => h.2); have HQL := Aside0.mk (show ∀ k, (fun k => Q k ∧ k < w3.heap.size) k → k < w3.heap.size from fun k h => h.2)
  have HK0 := Aside0.mk (hkd.trans hk)
  clear hi hi0 hi1 hkd hlt hs CC RR JJ hk
  generalize (fun k => P k ∧ k < w3.heap.size) = P3 at C3 J3 HPL
  generalize (fun k => Q k ∧ k < w3.heap.size) = Q3 at R3 J3 HQL
  go_upto_region 10 with (first | ((with_reducible refine gate_dst (N := 8) rfl ?_); refine box_event ?hg (N := 8) ?hd (cs := #[.int .i64 0, .int .i64 0, .string ⟨#[]⟩]) (t := 41) ?hr ?_; (case hd => rfl); (case hg => rfl); (case hr => first | (go_simp; done) | (go_simp; rfl)); intro g8 hg w4m hbox hb; have ZB := Aside0.mk hb; have ZX := Aside0.mk hbox; have E4g := Aside0.mk (show w3.heap.size ≤ g8 from by rw [hg]; exact Nat.le_refl _); have o_zc0 : w4m.cell? ⟨g8, 0, none⟩ = some (.int .i64 0) := (blk_cell ZX.out 0).trans rfl; have o_zf0 := blk_frozen ZX.out 0; have o_zc1 : w4m.cell? ⟨g8, 1, none⟩ = some (.int .i64 0) := (blk_cell ZX.out 1).trans rfl; have o_zf1 := blk_frozen ZX.out 1; have o_zc2 : w4m.cell? ⟨g8, 2, none⟩ = some (.string ⟨#[]⟩) := (blk_cell ZX.out 2).trans rfl; have o_zf2 := blk_frozen ZX.out 2; clear hb hg hbox))
  have NB4 := Aside0.mk (below_setB (below_setB (below_setB ZB.out (p := ⟨g8, 0, none⟩) E4g.out (.int .i64 kd)) (p := ⟨g8, 1, none⟩) E4g.out (.int .i64 lt)) (p := ⟨g8, 2, none⟩) E4g.out (.string s)); have E4 := Aside0.mk (blk_put (blk_put (blk_put ZX.out 0 (.int .i64 kd) (cs' := #[.int .i64 kd, .int .i64 0, .string ⟨#[]⟩]) rfl) 1 (.int .i64 lt) (cs' := #[.int .i64 kd, .int .i64 lt, .string ⟨#[]⟩]) rfl) 2 (.string s) (cs' := #[.int .i64 kd, .int .i64 lt, .string s]) rfl); clear ZB ZX o_zc0 o_zf0 o_zc1 o_zf1 o_zc2 o_zf2; generalize (((w4m.setCell ⟨g8, 0, none⟩ (.int .i64 kd)).setCell ⟨g8, 1, none⟩ (.int .i64 lt)).setCell ⟨g8, 2, none⟩ (.string s)) = w4 at NB4 E4 ⊢; have C4 := Aside0.mk (C3.out.below NB4.out); have R4 := Aside0.mk (Kd.R_below R3.out NB4.out); have X4 := Aside0.mk (blk_below X3.out NB4.out); have B4 := Aside0.mk (below_step B3.out NB4.out); have HS4 := Aside0.mk NB4.out.size; have HG8 := Aside0.mk (show g6 < g8 from Nat.lt_of_lt_of_le (blk_lt X3.out) E4g.out)
  have HQ8 := Aside0.mk (show ¬Q3 g8 from fun h => Nat.not_lt.mpr E4g.out (HQL.out g8 h))
  clear C3 R3 X3 B3 NB4 E4g x0 x1 x2 q1 q2 q3
  have xc0 : w4.cell? ⟨g6, 0, none⟩ = some (.int .i64 now) := (blk_cell X4.out 0).trans rfl; have xf0 := blk_frozen X4.out 0; have xc1 : w4.cell? ⟨g6, 1, none⟩ = some (.slice A d.length c) := (blk_cell X4.out 1).trans rfl; have xf1 := blk_frozen X4.out 1
  have ec0 : w4.cell? ⟨g8, 0, none⟩ = some (.int .i64 kd) := (blk_cell E4.out 0).trans rfl; have ef0 := blk_frozen E4.out 0; have ec1 : w4.cell? ⟨g8, 1, none⟩ = some (.int .i64 lt) := (blk_cell E4.out 1).trans rfl; have ef1 := blk_frozen E4.out 1; have ec2 : w4.cell? ⟨g8, 2, none⟩ = some (.string s) := (blk_cell E4.out 2).trans rfl; have ef2 := blk_frozen E4.out 2
  have hk0 := HK0.out
  subst hk0
  obtain ⟨kk, hkk⟩ := (tick_ev (d := d) (show 0 ≤ now ∧ now < 1099511627776 by have := HST.out.hnow; have := HIL.out; omega) (by have := HST.out.hlen; have := HIL.out; omega)).rounds
  obtain ⟨d', hd'⟩ : ∃ z, z = late d (now + 1) := ⟨_, rfl⟩
  obtain ⟨L, hL⟩ : ∃ z, z = (soon d (now + 1)).map Du.nm := ⟨_, rfl⟩
  have HLL := Aside0.mk (show L.length ≤ 100 by rw [hL, List.length_map]; have h1 := HST.out.hlen; have := HIL.out; have h2 : (soon d (now + 1)).length ≤ d.length := List.length_filter_le _ _; omega)
  rw [← hd', ← hL] at hkk
  have HD' := Aside0.mk hd'; have HL := Aside0.mk hL; have HKK := Aside0.mk hkk; have XL4 := Aside0.mk X4.out
  have HST3 := Aside0.mk (show St (i + 1) (now + 1) turns d' by rw [hd']; exact HST.out.tick)
  clear hkk hd' hL
  go_wp2_with fail
  refine (contraref08_Tick.calls kk now Q3 _ (V d) (now + 1) (V d') L w1 w4 B4.out R4.out HKK.out).mono ?_
  rintro e w5 ⟨v1, v2, rfl, hR, hR2, hB, hK⟩
  have W5 := Aside0.mk hR2
  clear hR2
  have C5 := Aside0.mk (C4.out.keep (fun k hk hl => hK.2 k hl (J3.out.1 k hk))); have X5 := Aside0.mk ((hK.2 g6 (blk_lt X4.out) J3.out.2.2).trans X4.out); have E5 := Aside0.mk ((hK.2 g8 (blk_lt E4.out) HQ8.out).trans E4.out); have B5 := Aside0.mk hB
  obtain ⟨A5, c5, e5⟩ := Kd.R_slice hR
  subst e5
  rw [V_len] at hR
  have R5 := Aside0.mk hR; have HS5 := Aside0.mk hK.1
  obtain ⟨A6, c6, e6⟩ := Kd.R_slice W5.out
  subst e6
  clear hR hB hK C4 X4 E4 xc0 xf0 xc1 xf1 ec0 ef0 ec1 ef1 ec2 ef2
  rw [V_len]
  go_upto_region 23 with (first | ((with_reducible refine gate_dst (N := 13) rfl ?_); refine box_event ?hg (N := 13) ?hd (cs := #[.int .i64 0, .slice none 0 0]) (t := 39) ?hr ?_; (case hd => rfl); (case hg => rfl); (case hr => first | (go_simp; done) | (go_simp; rfl)); intro g9 hg w6m hbox hb; have ZB := Aside0.mk hb; have ZX := Aside0.mk hbox; have F6g := Aside0.mk (show w5.heap.size ≤ g9 from by rw [hg]; exact Nat.le_refl _); have o_zc0 : w6m.cell? ⟨g9, 0, none⟩ = some (.int .i64 0) := (blk_cell ZX.out 0).trans rfl; have o_zf0 := blk_frozen ZX.out 0; have o_zc1 : w6m.cell? ⟨g9, 1, none⟩ = some (.slice none 0 0) := (blk_cell ZX.out 1).trans rfl; have o_zf1 := blk_frozen ZX.out 1; clear hb hg hbox))
  have NB6 := Aside0.mk (below_setB (below_setB ZB.out (p := ⟨g9, 0, none⟩) F6g.out (.int .i64 (now + 1))) (p := ⟨g9, 1, none⟩) F6g.out (.slice A5 d'.length c5)); have F6 := Aside0.mk (blk_put (blk_put ZX.out 0 (.int .i64 (now + 1)) (cs' := #[.int .i64 (now + 1), .slice none 0 0]) rfl) 1 (.slice A5 d'.length c5) (cs' := #[.int .i64 (now + 1), .slice A5 d'.length c5]) rfl); clear ZB ZX o_zc0 o_zf0 o_zc1 o_zf1; generalize ((w6m.setCell ⟨g9, 0, none⟩ (.int .i64 (now + 1))).setCell ⟨g9, 1, none⟩ (.slice A5 d'.length c5)) = w6 at NB6 F6 ⊢; have C6 := Aside0.mk (C5.out.below NB6.out); have R6 := Aside0.mk (Kd.R_below R5.out NB6.out); have X6 := Aside0.mk (blk_below X5.out NB6.out); have E6 := Aside0.mk (blk_below E5.out NB6.out); have B6 := Aside0.mk (below_step B5.out NB6.out); have W6 := Aside0.mk (Kd.R_below W5.out NB6.out)
  clear C5 R5 X5 E5 B5 NB6 W5
  have fc0 : w6.cell? ⟨g9, 0, none⟩ = some (.int .i64 (now + 1)) := (blk_cell F6.out 0).trans rfl; have ff0 := blk_frozen F6.out 0; have fc1 : w6.cell? ⟨g9, 1, none⟩ = some (.slice A5 d'.length c5) := (blk_cell F6.out 1).trans rfl; have ff1 := blk_frozen F6.out 1
  have xc0 : w6.cell? ⟨g6, 0, none⟩ = some (.int .i64 now) := (blk_cell X6.out 0).trans rfl; have xf0 := blk_frozen X6.out 0; have xc1 : w6.cell? ⟨g6, 1, none⟩ = some (.slice A d.length c) := (blk_cell X6.out 1).trans rfl; have xf1 := blk_frozen X6.out 1
  go_upto_region 24 with fail
  have HN6 := Aside0.mk (show ¬(Q3 g6 ∨ w4.heap.size ≤ g6) from fun h => h.elim J3.out.2.2 (fun h => by have := blk_lt XL4.out; omega))
  have X7 := Aside0.mk (blk_put (blk_put X6.out 0 (.int .i64 (now + 1)) (cs' := #[.int .i64 (now + 1), .slice A d.length c]) rfl) 1 (.slice A5 d'.length c5) (cs' := #[.int .i64 (now + 1), .slice A5 d'.length c5]) rfl)
  have K7 := Aside0.mk (((Kept.refl w6 (fun k => k = g6)).setCell (p := ⟨g6, 0, none⟩) (.inl rfl) (.int .i64 (now + 1))).setCell (p := ⟨g6, 1, none⟩) (.inl rfl) (.slice A5 d'.length c5))
  have C7 := Aside0.mk (C6.out.keep (fun k hk hl => K7.out.2 k hl (fun e => J3.out.2.1 (e ▸ hk))))
  have R7_ := Aside0.mk (Kd.R_kept R6.out K7.out (fun k hk e => HN6.out (e ▸ hk)))
  have E7 := Aside0.mk (blk_far (blk_far E6.out (p := ⟨g6, 0, none⟩) (Nat.ne_of_gt HG8.out) (.int .i64 (now + 1))) (p := ⟨g6, 1, none⟩) (Nat.ne_of_gt HG8.out) (.slice A5 d'.length c5))
  have B7 := Aside0.mk (below_setB (below_setB B6.out (p := ⟨g6, 0, none⟩) G6.out (.int .i64 (now + 1))) (p := ⟨g6, 1, none⟩) G6.out (.slice A5 d'.length c5))
  have W7_ := Aside0.mk (Kd.R_kept W6.out K7.out (fun k hk e => HN6.out (e ▸ hk)))
  clear fc0 ff0 fc1 ff1 xc0 xf0 xc1 xf1 C6 R6 X6 E6 B6 F6 K7
  generalize ((w6.setCell ⟨g6, 0, none⟩ (.int .i64 (now + 1))).setCell ⟨g6, 1, none⟩ (.slice A5 d'.length c5)) = w7 at X7 C7 R7_ E7 B7 W7_ ⊢
  have R7 := Aside0.mk (R_lim R7_.out)
  have J7 := Aside0.mk (show DJ P3 (fun k => (Q3 k ∨ w4.heap.size ≤ k) ∧ k < w7.heap.size) g6 from ⟨fun k hk h => h.1.elim (J3.out.1 k hk) (fun h => by have := HPL.out k hk; have := HS4.out; omega), J3.out.2.1, fun h => HN6.out h.1⟩)
  clear R7_
  have HQ7 := Aside0.mk (show ∀ k, (fun k => (Q3 k ∨ w4.heap.size ≤ k) ∧ k < w7.heap.size) k → k < w7.heap.size from fun k h => h.2); generalize (fun k => (Q3 k ∨ w4.heap.size ≤ k) ∧ k < w7.heap.size) = Q7 at R7 J7 HQ7
  have ec0 : w7.cell? ⟨g8, 0, none⟩ = some (.int .i64 2) := (blk_cell E7.out 0).trans rfl; have ef0 := blk_frozen E7.out 0; have ec1 : w7.cell? ⟨g8, 1, none⟩ = some (.int .i64 lt) := (blk_cell E7.out 1).trans rfl; have ef1 := blk_frozen E7.out 1; have ec2 : w7.cell? ⟨g8, 2, none⟩ = some (.string s) := (blk_cell E7.out 2).trans rfl; have ef2 := blk_frozen E7.out 2
  have W7 := Aside0.mk (Kd.R_mono (Kd.R_bound W7_.out) (ok' := fun k => (Q3 k ∨ w4.heap.size ≤ k) ∧ k < w7.heap.size) (fun k q => ⟨q.1, q.2.2.1⟩))
  clear W7_
  go_wp2_with fail
  have CON := Aside0.mk (tick_calls C7.out HST.out.hsoon (by have := HST.out.hnow; have := HIL.out; omega) (by have := HST.out.hturns; have := HIL.out; omega))
  rw [← HL.out, ← HD'.out] at CON
  refine CON.out.mono ?_
  rintro y w8 ⟨⟨v8, rfl, hv⟩, hC, hb, hk⟩
  obtain ⟨A8, c8, e8⟩ := Kd.R_slice hv
  subst e8
  have L8 := Aside0.mk hv
  have W8 := Aside0.mk (Kd.R_kept W7.out hk (fun k q e => q.1.elim (fun q => J3.out.1 k e.1 q) (fun q => by have := HPL.out k e.1; have := HS4.out; omega)))
  have C8 := Aside0.mk hC; have R8 := Aside0.mk (Kd.R_kept R7.out hk (fun k h2 h1 => J7.out.1 k h1.1 h2)); have X8 := Aside0.mk ((hk.2 g6 (blk_lt X7.out) (fun h => J7.out.2.1 h.1)).trans X7.out); have B8 := Aside0.mk (B7.out.trans hb); have J8 := Aside0.mk (show DJ (fun k => P3 k ∧ k < w7.heap.size) Q7 g6 from ⟨fun k h1 h2 => J7.out.1 k h1.1 h2, fun h => J7.out.2.1 h.1, J7.out.2.2⟩)
  clear hv hC hb hk CON C7 R7 X7 B7 J7 E7 W7 ec0 ef0 ec1 ef1 ec2 ef2
  go_wp2_with fail
  go_loopg [87] (L.length + 1) (fun kq v87 w' => ∃ (j : Nat), v87 = .int .i64 (j : Int) ∧ Aside0 (j ≤ L.length ∧ j + kq = L.length + 1) ∧ Aside0 (Below w8.heap.size w8 w'))
  case atStart => exact ⟨0, rfl, ⟨by omega, by omega⟩, ⟨Below.refl _ _⟩⟩
  case round =>
    obtain ⟨j, rfl, HJ, BJ⟩ := hrel
    by_cases hj : j < L.length
    · have f1 : decide ((j : Int) < (L.length : Int)) = true := decide_eq_true (by omega)
      have f2 : decide (j < L.length) = true := decide_eq_true hj
      have f3 : (j < L.length) = True := eq_true hj
      have f4 : (0 : Int) ≤ (j : Int) := by omega
      have f5 : (j : Int) < (L.length : Int) := by omega
      have f6 := eq_true f4; have f7 := eq_true f5; have f8 : decide ((0 : Int) ≤ (j : Int)) = true := decide_eq_true f4
      have NJ := Aside0.mk (nkP hj HJ.out)
      obtain ⟨ad, ce, ee, y0⟩ := str_at (Kd.R_below L8.out BJ.out) hj
      injection ee with ee _ ec
      subst ee
      obtain ⟨bd, cf, ef, z0⟩ := str_at (Kd.R_below W8.out BJ.out) hj
      injection ef with ef _ eg
      subst ef
      have b3_ : wrap64 ((j : Int) + 1) = ((j + 1 : Nat) : Int) := by have := HLL.out; unfold wrap64; omega
      obtain ⟨z, hz⟩ : ∃ z, z = L.getD j ⟨#[]⟩ := ⟨_, rfl⟩
      rw [← hz] at y0 z0
      have Y0 := Aside0.mk y0; have Z0 := Aside0.mk z0
      clear hj f4 f5 hz ec eg y0 z0
      go_wp2_with fail
      refine start_ (n := 9) (S := fun w' => w'.cell? (ad.add j) = some (.string z) ∧ w'.cell? (bd.add j) = some (.string z)) (ds := []) #[false, false, false, false, false, false, false, false, false] (by kernel_rfl) rfl rfl ⟨Y0.out, Z0.out⟩ (fun hHeld => ?_)
      refine pure_ (i := 0) (N := some 90) (v := ?_) (a' := ?_) #[true, false, false, false, false, false, false, false, false] rfl rfl (by kernel_rfl) (fun _ _ _ h => h) (Or.inl ⟨by rfl, ?_⟩) ?_ ?_
      rotate_left
      · intro w'
        go_simp
        with_reducible rfl
      rotate_left
      · simp only [Act.put, List.setIfInBounds_toArray, List.set_cons_zero, List.set_cons_succ, i64_w, i32_w]
        rfl
      refine pure_ (i := 1) (N := some 91) (v := ?_) (a' := ?_) #[true, true, false, false, false, false, false, false, false] rfl rfl (by kernel_rfl) (fun _ _ _ h => h) (Or.inl ⟨by rfl, ?_⟩) ?_ ?_
      rotate_left
      · intro w'
        go_simp
        with_reducible rfl
      rotate_left
      · simp only [Act.put, List.setIfInBounds_toArray, List.set_cons_zero, List.set_cons_succ, i64_w, i32_w]
        rfl
      refine pure_ (i := 2) (N := some 92) (v := ?_) (a' := ?_) #[true, true, true, false, false, false, false, false, false] rfl rfl (by kernel_rfl) (fun _ _ _ h => h) (Or.inl ⟨by rfl, ?_⟩) ?_ ?_
      rotate_left
      · intro w'
        go_simp
        with_reducible rfl
      rotate_left
      · simp only [Act.put, List.setIfInBounds_toArray, List.set_cons_zero, List.set_cons_succ, i64_w, i32_w]
        rfl
      refine pure_ (i := 4) (N := some 94) (v := ?_) (a' := ?_) #[true, true, true, false, true, false, false, false, false] rfl rfl (by kernel_rfl) (fun _ _ _ h => h) (Or.inl ⟨by rfl, ?_⟩) ?_ ?_
      rotate_left
      · intro w'
        go_simp
        with_reducible rfl
      rotate_left
      · simp only [Act.put, List.setIfInBounds_toArray, List.set_cons_zero, List.set_cons_succ, i64_w, i32_w]
        rfl
      refine pure_ (i := 5) (N := some 95) (v := ?_) (a' := ?_) #[true, true, true, false, true, true, false, false, false] rfl rfl (by kernel_rfl) (fun _ _ _ h => h) (Or.inl ⟨by rfl, ?_⟩) ?_ ?_
      rotate_left
      · intro w'
        go_simp
        with_reducible rfl
      rotate_left
      · simp only [Act.put, List.setIfInBounds_toArray, List.set_cons_zero, List.set_cons_succ, i64_w, i32_w]
        rfl
      refine pure_ (i := 6) (N := some 96) (v := ?_) (a' := ?_) #[true, true, true, false, true, true, true, false, false] rfl rfl (by kernel_rfl) (fun _ _ _ h => h) (Or.inl ⟨by rfl, ?_⟩) ?_ ?_
      rotate_left
      · intro w'
        go_simp
        with_reducible rfl
      rotate_left
      · simp only [Act.put, List.setIfInBounds_toArray, List.set_cons_zero, List.set_cons_succ, i64_w, i32_w]
        rfl
      refine take_ (i := 3) (N := some 93) (v := ?_) (a' := ?_) #[true, true, true, true, true, true, true, false, false] rfl rfl (by kernel_rfl) (fun _ _ _ h => h) (Or.inl ⟨by rfl, ?_⟩) hHeld ?_ ?_
      rotate_left
      · rintro w' ⟨s0, s1⟩
        go_simp
        with_reducible rfl
      rotate_left
      · simp only [Act.put, List.setIfInBounds_toArray, List.set_cons_zero, List.set_cons_succ, i64_w, i32_w]
        rfl
      refine take_ (i := 7) (N := some 97) (v := ?_) (a' := ?_) #[true, true, true, true, true, true, true, true, false] rfl rfl (by kernel_rfl) (fun _ _ _ h => h) (Or.inl ⟨by rfl, ?_⟩) hHeld ?_ ?_
      rotate_left
      · rintro w' ⟨s0, s1⟩
        go_simp
        with_reducible rfl
      rotate_left
      · simp only [Act.put, List.setIfInBounds_toArray, List.set_cons_zero, List.set_cons_succ, i64_w, i32_w]
        rfl
      refine pure_ (i := 8) (N := some 98) (v := ?_) (a' := ?_) #[true, true, true, true, true, true, true, true, true] rfl rfl (by kernel_rfl) (fun _ _ _ h => h) (Or.inl ⟨by rfl, ?_⟩) ?_ ?_
      rotate_left
      · intro w'
        go_simp
        with_reducible rfl
      rotate_left
      · simp only [Act.put, List.setIfInBounds_toArray, List.set_cons_zero, List.set_cons_succ, i64_w, i32_w]
        rfl
      refine done_ (by kernel_rfl) ?_
      go_wp2_with fail
      go_roundg (gk - 1)
      case measure => have := NJ.out.2; omega
      case rel => exact ⟨j + 1, by (first | rw [b3_] | rfl), ⟨NJ.out.1⟩, ⟨below_drew BJ.out⟩⟩
    have f1 : decide ((j : Int) < (L.length : Int)) = false := decide_eq_false (by omega)
    have f2 : decide (j < L.length) = false := decide_eq_false hj
    have f3 : (j < L.length) = False := eq_false hj
    have C9 := Aside0.mk (C8.out.below BJ.out); have R9 := Aside0.mk (Kd.R_below R8.out BJ.out); have X9 := Aside0.mk (blk_below X8.out BJ.out); have B9 := Aside0.mk (below_step B8.out BJ.out); have J9 := Aside0.mk J8.out
    clear hj HJ BJ C8 R8 X8 B8 J8 L8 W8
    generalize wr = w9 at C9 R9 X9 B9 ⊢
    have HST2 := Aside0.mk (show St (i + 1) (now + 1) (turns) d' from HST3.out)
    go_wp2_with fail
    by_cases hx : ∃ x ∈ d', x.nm = ask
    rotate_left
    · have hno : ∀ x ∈ d', x.nm ≠ ask := fun x h1 h2 => hx ⟨x, h1, h2⟩
      obtain ⟨kf, hkf⟩ := (find_ev (d := d') (now + 1) ask (by have := HST2.out.hlen; have := HIL.out; omega)).rounds
      rw [fi_no hno] at hkf
      have HKF := Aside0.mk hkf; have HNO := Aside0.mk hno
      clear hx hno hkf
      refine (when_no C9.out HAS.out HNO.out).mono ?_
      rintro x w20 ⟨rfl, hb⟩
      have C20 := Aside0.mk (C9.out.below hb); have R20 := Aside0.mk (Kd.R_below R9.out hb); have X20 := Aside0.mk (blk_below X9.out hb); have B20 := Aside0.mk (below_step B9.out hb)
      clear hb C9 R9 X9 B9
      have xc0 : w20.cell? ⟨g6, 0, none⟩ = some (.int .i64 (now + 1)) := (blk_cell X20.out 0).trans rfl; have xf0 := blk_frozen X20.out 0; have xc1 : w20.cell? ⟨g6, 1, none⟩ = some (.slice A5 d'.length c5) := (blk_cell X20.out 1).trans rfl; have xf1 := blk_frozen X20.out 1
      go_wp2_with fail
      obtain ⟨hl_, hr1_, hr2_⟩ := Kd.R_reads' R20.out
      have HCF := Aside0.mk (contraref08_Find.calls kf (now + 1) A5 c5 (V d') ask _ w20 (by first | exact hr2_ | (rw [V_len]; exact hr2_)) (by first | exact hr1_ | (rw [V_len]; exact hr1_)) HKF.out)
      rw [V_len] at HCF
      clear hl_ hr1_ hr2_
      refine HCF.out.mono ?_
      rintro y w21 ⟨rfl, hb⟩
      clear HCF xc0 xf0 xc1 xf1
      have C21 := Aside0.mk (C20.out.below hb); have R21 := Aside0.mk (Kd.R_below R20.out hb); have X21 := Aside0.mk (blk_below X20.out hb); have B21 := Aside0.mk (below_step B20.out hb)
      clear hb C20 R20 X20 B20
      go_wp2_with fail
      refine start_ (n := 40) (S := fun w' => w'.cell? ⟨g6, 0, none⟩ = some (.int .i64 (now + 1)) ∧ w'.cell? ⟨g6, 1, none⟩ = some (.slice A5 d'.length c5)) (ds := []) #[false, false, false, false, false, false, false, false, false, false, false, false, false, false, false, false, false, false, false, false, false, false, false, false, false, false, false, false, false, false, false, false, false, false, false, false, false, false, false, false] (by kernel_rfl) rfl rfl ⟨(blk_cell (blk_drew X21.out) 0).trans rfl, (blk_cell (blk_drew X21.out) 1).trans rfl⟩ (fun hHeld => ?_)
      refine pure_ (i := 0) (N := some 109) (v := ?_) (a' := ?_) #[true, false, false, false, false, false, false, false, false, false, false, false, false, false, false, false, false, false, false, false, false, false, false, false, false, false, false, false, false, false, false, false, false, false, false, false, false, false, false, false] rfl rfl (by kernel_rfl) (fun _ _ _ h => h) (Or.inl ⟨by rfl, ?_⟩) ?_ ?_
      rotate_left
      · intro w'
        go_simp
        with_reducible rfl
      rotate_left
      · simp only [Act.put, List.setIfInBounds_toArray, List.set_cons_zero, List.set_cons_succ, i64_w, i32_w]
        rfl
      refine pure_ (i := 1) (N := some 110) (v := ?_) (a' := ?_) #[true, true, false, false, false, false, false, false, false, false, false, false, false, false, false, false, false, false, false, false, false, false, false, false, false, false, false, false, false, false, false, false, false, false, false, false, false, false, false, false] rfl rfl (by kernel_rfl) (fun _ _ _ h => h) (Or.inl ⟨by rfl, ?_⟩) ?_ ?_
      rotate_left
      · intro w'
        go_simp
        with_reducible rfl
      rotate_left
      · simp only [Act.put, List.setIfInBounds_toArray, List.set_cons_zero, List.set_cons_succ, i64_w, i32_w]
        rfl
      refine pure_ (i := 2) (N := some 111) (v := ?_) (a' := ?_) #[true, true, true, false, false, false, false, false, false, false, false, false, false, false, false, false, false, false, false, false, false, false, false, false, false, false, false, false, false, false, false, false, false, false, false, false, false, false, false, false] rfl rfl (by kernel_rfl) (fun _ _ _ h => h) (Or.inl ⟨by rfl, ?_⟩) ?_ ?_
      rotate_left
      · intro w'
        go_simp
        with_reducible rfl
      rotate_left
      · simp only [Act.put, List.setIfInBounds_toArray, List.set_cons_zero, List.set_cons_succ, i64_w, i32_w]
        rfl
      refine pure_ (i := 3) (N := some 112) (v := ?_) (a' := ?_) #[true, true, true, true, false, false, false, false, false, false, false, false, false, false, false, false, false, false, false, false, false, false, false, false, false, false, false, false, false, false, false, false, false, false, false, false, false, false, false, false] rfl rfl (by kernel_rfl) (fun _ _ _ h => h) (Or.inl ⟨by rfl, ?_⟩) ?_ ?_
      rotate_left
      · intro w'
        go_simp
        with_reducible rfl
      rotate_left
      · simp only [Act.put, List.setIfInBounds_toArray, List.set_cons_zero, List.set_cons_succ, i64_w, i32_w]
        rfl
      refine pure_ (i := 4) (N := some 113) (v := ?_) (a' := ?_) #[true, true, true, true, true, false, false, false, false, false, false, false, false, false, false, false, false, false, false, false, false, false, false, false, false, false, false, false, false, false, false, false, false, false, false, false, false, false, false, false] rfl rfl (by kernel_rfl) (fun _ _ _ h => h) (Or.inl ⟨by rfl, ?_⟩) ?_ ?_
      rotate_left
      · intro w'
        go_simp
        with_reducible rfl
      rotate_left
      · simp only [Act.put, List.setIfInBounds_toArray, List.set_cons_zero, List.set_cons_succ, i64_w, i32_w]
        rfl
      refine pure_ (i := 5) (N := some 114) (v := ?_) (a' := ?_) #[true, true, true, true, true, true, false, false, false, false, false, false, false, false, false, false, false, false, false, false, false, false, false, false, false, false, false, false, false, false, false, false, false, false, false, false, false, false, false, false] rfl rfl (by kernel_rfl) (fun _ _ _ h => h) (Or.inl ⟨by rfl, ?_⟩) ?_ ?_
      rotate_left
      · intro w'
        go_simp
        with_reducible rfl
      rotate_left
      · simp only [Act.put, List.setIfInBounds_toArray, List.set_cons_zero, List.set_cons_succ, i64_w, i32_w]
        rfl
      refine pure_ (i := 6) (N := some 115) (v := ?_) (a' := ?_) #[true, true, true, true, true, true, true, false, false, false, false, false, false, false, false, false, false, false, false, false, false, false, false, false, false, false, false, false, false, false, false, false, false, false, false, false, false, false, false, false] rfl rfl (by kernel_rfl) (fun _ _ _ h => h) (Or.inl ⟨by rfl, ?_⟩) ?_ ?_
      rotate_left
      · intro w'
        go_simp
        with_reducible rfl
      rotate_left
      · simp only [Act.put, List.setIfInBounds_toArray, List.set_cons_zero, List.set_cons_succ, i64_w, i32_w]
        rfl
      refine pure_ (i := 7) (N := some 116) (v := undef) (a' := ?_) #[true, true, true, true, true, true, true, true, false, false, false, false, false, false, false, false, false, false, false, false, false, false, false, false, false, false, false, false, false, false, false, false, false, false, false, false, false, false, false, false] rfl rfl (by kernel_rfl) (fun _ _ _ h => h) (Or.inr ⟨by rfl, rfl⟩) ?_ ?_
      rotate_left
      · simp only [Act.put, List.setIfInBounds_toArray, List.set_cons_zero, List.set_cons_succ, i64_w, i32_w]
        rfl
      refine pure_ (i := 8) (N := some 117) (v := undef) (a' := ?_) #[true, true, true, true, true, true, true, true, true, false, false, false, false, false, false, false, false, false, false, false, false, false, false, false, false, false, false, false, false, false, false, false, false, false, false, false, false, false, false, false] rfl rfl (by kernel_rfl) (fun _ _ _ h => h) (Or.inr ⟨by rfl, rfl⟩) ?_ ?_
      rotate_left
      · simp only [Act.put, List.setIfInBounds_toArray, List.set_cons_zero, List.set_cons_succ, i64_w, i32_w]
        rfl
      refine pure_ (i := 9) (N := some 118) (v := undef) (a' := ?_) #[true, true, true, true, true, true, true, true, true, true, false, false, false, false, false, false, false, false, false, false, false, false, false, false, false, false, false, false, false, false, false, false, false, false, false, false, false, false, false, false] rfl rfl (by kernel_rfl) (fun _ _ _ h => h) (Or.inr ⟨by rfl, rfl⟩) ?_ ?_
      rotate_left
      · simp only [Act.put, List.setIfInBounds_toArray, List.set_cons_zero, List.set_cons_succ, i64_w, i32_w]
        rfl
      refine pure_ (i := 10) (N := some 119) (v := undef) (a' := ?_) #[true, true, true, true, true, true, true, true, true, true, true, false, false, false, false, false, false, false, false, false, false, false, false, false, false, false, false, false, false, false, false, false, false, false, false, false, false, false, false, false] rfl rfl (by kernel_rfl) (fun _ _ _ h => h) (Or.inr ⟨by rfl, rfl⟩) ?_ ?_
      rotate_left
      · simp only [Act.put, List.setIfInBounds_toArray, List.set_cons_zero, List.set_cons_succ, i64_w, i32_w]
        rfl
      refine pure_ (i := 11) (N := some 120) (v := undef) (a' := ?_) #[true, true, true, true, true, true, true, true, true, true, true, true, false, false, false, false, false, false, false, false, false, false, false, false, false, false, false, false, false, false, false, false, false, false, false, false, false, false, false, false] rfl rfl (by kernel_rfl) (fun _ _ _ h => h) (Or.inr ⟨by rfl, rfl⟩) ?_ ?_
      rotate_left
      · simp only [Act.put, List.setIfInBounds_toArray, List.set_cons_zero, List.set_cons_succ, i64_w, i32_w]
        rfl
      refine pure_ (i := 12) (N := some 121) (v := undef) (a' := ?_) #[true, true, true, true, true, true, true, true, true, true, true, true, true, false, false, false, false, false, false, false, false, false, false, false, false, false, false, false, false, false, false, false, false, false, false, false, false, false, false, false] rfl rfl (by kernel_rfl) (fun _ _ _ h => h) (Or.inr ⟨by rfl, rfl⟩) ?_ ?_
      rotate_left
      · simp only [Act.put, List.setIfInBounds_toArray, List.set_cons_zero, List.set_cons_succ, i64_w, i32_w]
        rfl
      refine pure_ (i := 13) (N := some 122) (v := undef) (a' := ?_) #[true, true, true, true, true, true, true, true, true, true, true, true, true, true, false, false, false, false, false, false, false, false, false, false, false, false, false, false, false, false, false, false, false, false, false, false, false, false, false, false] rfl rfl (by kernel_rfl) (fun _ _ _ h => h) (Or.inr ⟨by rfl, rfl⟩) ?_ ?_
      rotate_left
      · simp only [Act.put, List.setIfInBounds_toArray, List.set_cons_zero, List.set_cons_succ, i64_w, i32_w]
        rfl
      refine pure_ (i := 14) (N := some 123) (v := undef) (a' := ?_) #[true, true, true, true, true, true, true, true, true, true, true, true, true, true, true, false, false, false, false, false, false, false, false, false, false, false, false, false, false, false, false, false, false, false, false, false, false, false, false, false] rfl rfl (by kernel_rfl) (fun _ _ _ h => h) (Or.inr ⟨by rfl, rfl⟩) ?_ ?_
      rotate_left
      · simp only [Act.put, List.setIfInBounds_toArray, List.set_cons_zero, List.set_cons_succ, i64_w, i32_w]
        rfl
      refine pure_ (i := 15) (N := some 124) (v := ?_) (a' := ?_) #[true, true, true, true, true, true, true, true, true, true, true, true, true, true, true, true, false, false, false, false, false, false, false, false, false, false, false, false, false, false, false, false, false, false, false, false, false, false, false, false] rfl rfl (by kernel_rfl) (fun _ _ _ h => h) (Or.inl ⟨by rfl, ?_⟩) ?_ ?_
      rotate_left
      · intro w'
        go_simp
        with_reducible rfl
      rotate_left
      · simp only [Act.put, List.setIfInBounds_toArray, List.set_cons_zero, List.set_cons_succ, i64_w, i32_w]
        rfl
      refine pure_ (i := 16) (N := some 125) (v := ?_) (a' := ?_) #[true, true, true, true, true, true, true, true, true, true, true, true, true, true, true, true, true, false, false, false, false, false, false, false, false, false, false, false, false, false, false, false, false, false, false, false, false, false, false, false] rfl rfl (by kernel_rfl) (fun _ _ _ h => h) (Or.inl ⟨by rfl, ?_⟩) ?_ ?_
      rotate_left
      · intro w'
        go_simp
        with_reducible rfl
      rotate_left
      · simp only [Act.put, List.setIfInBounds_toArray, List.set_cons_zero, List.set_cons_succ, i64_w, i32_w]
        rfl
      refine pure_ (i := 17) (N := some 126) (v := ?_) (a' := ?_) #[true, true, true, true, true, true, true, true, true, true, true, true, true, true, true, true, true, true, false, false, false, false, false, false, false, false, false, false, false, false, false, false, false, false, false, false, false, false, false, false] rfl rfl (by kernel_rfl) (fun _ _ _ h => h) (Or.inl ⟨by rfl, ?_⟩) ?_ ?_
      rotate_left
      · intro w'
        go_simp
        with_reducible rfl
      rotate_left
      · simp only [Act.put, List.setIfInBounds_toArray, List.set_cons_zero, List.set_cons_succ, i64_w, i32_w]
        rfl
      refine pure_ (i := 18) (N := some 127) (v := ?_) (a' := ?_) #[true, true, true, true, true, true, true, true, true, true, true, true, true, true, true, true, true, true, true, false, false, false, false, false, false, false, false, false, false, false, false, false, false, false, false, false, false, false, false, false] rfl rfl (by kernel_rfl) (fun _ _ _ h => h) (Or.inl ⟨by rfl, ?_⟩) ?_ ?_
      rotate_left
      · intro w'
        go_simp
        with_reducible rfl
      rotate_left
      · simp only [Act.put, List.setIfInBounds_toArray, List.set_cons_zero, List.set_cons_succ, i64_w, i32_w]
        rfl
      refine pure_ (i := 19) (N := some 128) (v := ?_) (a' := ?_) #[true, true, true, true, true, true, true, true, true, true, true, true, true, true, true, true, true, true, true, true, false, false, false, false, false, false, false, false, false, false, false, false, false, false, false, false, false, false, false, false] rfl rfl (by kernel_rfl) (fun _ _ _ h => h) (Or.inl ⟨by rfl, ?_⟩) ?_ ?_
      rotate_left
      · intro w'
        go_simp
        with_reducible rfl
      rotate_left
      · simp only [Act.put, List.setIfInBounds_toArray, List.set_cons_zero, List.set_cons_succ, i64_w, i32_w]
        rfl
      refine pure_ (i := 20) (N := some 129) (v := ?_) (a' := ?_) #[true, true, true, true, true, true, true, true, true, true, true, true, true, true, true, true, true, true, true, true, true, false, false, false, false, false, false, false, false, false, false, false, false, false, false, false, false, false, false, false] rfl rfl (by kernel_rfl) (fun _ _ _ h => h) (Or.inl ⟨by rfl, ?_⟩) ?_ ?_
      rotate_left
      · intro w'
        go_simp
        with_reducible rfl
      rotate_left
      · simp only [Act.put, List.setIfInBounds_toArray, List.set_cons_zero, List.set_cons_succ, i64_w, i32_w]
        rfl
      refine pure_ (i := 21) (N := some 130) (v := ?_) (a' := ?_) #[true, true, true, true, true, true, true, true, true, true, true, true, true, true, true, true, true, true, true, true, true, true, false, false, false, false, false, false, false, false, false, false, false, false, false, false, false, false, false, false] rfl rfl (by kernel_rfl) (fun _ _ _ h => h) (Or.inl ⟨by rfl, ?_⟩) ?_ ?_
      rotate_left
      · intro w'
        go_simp
        with_reducible rfl
      rotate_left
      · simp only [Act.put, List.setIfInBounds_toArray, List.set_cons_zero, List.set_cons_succ, i64_w, i32_w]
        rfl
      refine pure_ (i := 22) (N := some 131) (v := ?_) (a' := ?_) #[true, true, true, true, true, true, true, true, true, true, true, true, true, true, true, true, true, true, true, true, true, true, true, false, false, false, false, false, false, false, false, false, false, false, false, false, false, false, false, false] rfl rfl (by kernel_rfl) (fun _ _ _ h => h) (Or.inl ⟨by rfl, ?_⟩) ?_ ?_
      rotate_left
      · intro w'
        go_simp
        with_reducible rfl
      rotate_left
      · simp only [Act.put, List.setIfInBounds_toArray, List.set_cons_zero, List.set_cons_succ, i64_w, i32_w]
        rfl
      refine pure_ (i := 23) (N := some 132) (v := ?_) (a' := ?_) #[true, true, true, true, true, true, true, true, true, true, true, true, true, true, true, true, true, true, true, true, true, true, true, true, false, false, false, false, false, false, false, false, false, false, false, false, false, false, false, false] rfl rfl (by kernel_rfl) (fun _ _ _ h => h) (Or.inl ⟨by rfl, ?_⟩) ?_ ?_
      rotate_left
      · intro w'
        go_simp
        with_reducible rfl
      rotate_left
      · simp only [Act.put, List.setIfInBounds_toArray, List.set_cons_zero, List.set_cons_succ, i64_w, i32_w]
        rfl
      refine pure_ (i := 24) (N := some 133) (v := ?_) (a' := ?_) #[true, true, true, true, true, true, true, true, true, true, true, true, true, true, true, true, true, true, true, true, true, true, true, true, true, false, false, false, false, false, false, false, false, false, false, false, false, false, false, false] rfl rfl (by kernel_rfl) (fun _ _ _ h => h) (Or.inl ⟨by rfl, ?_⟩) ?_ ?_
      rotate_left
      · intro w'
        go_simp
        with_reducible rfl
      rotate_left
      · simp only [Act.put, List.setIfInBounds_toArray, List.set_cons_zero, List.set_cons_succ, i64_w, i32_w]
        rfl
      refine pure_ (i := 25) (N := some 134) (v := ?_) (a' := ?_) #[true, true, true, true, true, true, true, true, true, true, true, true, true, true, true, true, true, true, true, true, true, true, true, true, true, true, false, false, false, false, false, false, false, false, false, false, false, false, false, false] rfl rfl (by kernel_rfl) (fun _ _ _ h => h) (Or.inl ⟨by rfl, ?_⟩) ?_ ?_
      rotate_left
      · intro w'
        go_simp
        with_reducible rfl
      rotate_left
      · simp only [Act.put, List.setIfInBounds_toArray, List.set_cons_zero, List.set_cons_succ, i64_w, i32_w]
        rfl
      refine pure_ (i := 26) (N := some 135) (v := ?_) (a' := ?_) #[true, true, true, true, true, true, true, true, true, true, true, true, true, true, true, true, true, true, true, true, true, true, true, true, true, true, true, false, false, false, false, false, false, false, false, false, false, false, false, false] rfl rfl (by kernel_rfl) (fun _ _ _ h => h) (Or.inl ⟨by rfl, ?_⟩) ?_ ?_
      rotate_left
      · intro w'
        go_simp
        with_reducible rfl
      rotate_left
      · simp only [Act.put, List.setIfInBounds_toArray, List.set_cons_zero, List.set_cons_succ, i64_w, i32_w]
        rfl
      refine pure_ (i := 28) (N := some 137) (v := ?_) (a' := ?_) #[true, true, true, true, true, true, true, true, true, true, true, true, true, true, true, true, true, true, true, true, true, true, true, true, true, true, true, false, true, false, false, false, false, false, false, false, false, false, false, false] rfl rfl (by kernel_rfl) (fun _ _ _ h => h) (Or.inl ⟨by rfl, ?_⟩) ?_ ?_
      rotate_left
      · intro w'
        go_simp
        with_reducible rfl
      rotate_left
      · simp only [Act.put, List.setIfInBounds_toArray, List.set_cons_zero, List.set_cons_succ, i64_w, i32_w]
        rfl
      refine take_ (i := 29) (N := some 138) (v := ?_) (a' := ?_) #[true, true, true, true, true, true, true, true, true, true, true, true, true, true, true, true, true, true, true, true, true, true, true, true, true, true, true, false, true, true, false, false, false, false, false, false, false, false, false, false] rfl rfl (by kernel_rfl) (fun _ _ _ h => h) (Or.inl ⟨by rfl, ?_⟩) hHeld ?_ ?_
      rotate_left
      · rintro w' ⟨s0, s1⟩
        go_simp
        with_reducible rfl
      rotate_left
      · simp only [Act.put, List.setIfInBounds_toArray, List.set_cons_zero, List.set_cons_succ, i64_w, i32_w]
        rfl
      refine one_ (i := 27) (N := some 136) #[true, true, true, true, true, true, true, true, true, true, true, true, true, true, true, true, true, true, true, true, true, true, true, true, true, true, true, true, true, true, false, false, false, false, false, false, false, false, false, false] rfl rfl (by kernel_rfl) (by decide) (fun K hK => ?_)
      refine goes_ Try.func14 (by kernel_rfl) rfl #[.pointer (some ⟨g, 0, none⟩)] (by rfl) rfl rfl (by simp only [List.map_toArray, List.map_cons, List.map_nil]; rfl) ?_
      with_reducible refine (now_calls (w := w21.drew) C21.out.drew).mono ?_
      rintro y w22 ⟨rfl, hb⟩
      refine ⟨_, rfl, ?_⟩
      have C22 := Aside0.mk (C21.out.drew.below hb)
      have R22 := Aside0.mk (Kd.R_below (Kd.R_below R21.out (below_drew (Below.refl _ _))) hb)
      have X22 := Aside0.mk (blk_below (blk_drew X21.out) hb)
      have B22 := Aside0.mk (below_step (below_drew B21.out) hb)
      clear hb
      refine hK.out _ _ ⟨(blk_cell X22.out 0).trans rfl, (blk_cell X22.out 1).trans rfl⟩ (fun hHeld => ?_)
      clear hK K
      refine norm_ (a' := ?_) ?_ ?_
      rotate_left
      · show Act.put _ (some 136) _ = _
        simp only [Act.put, List.setIfInBounds_toArray, List.set_cons_zero, List.set_cons_succ, i64_w, i32_w]
        rfl
      refine pure_ (i := 30) (N := some 139) (v := ?_) (a' := ?_) #[true, true, true, true, true, true, true, true, true, true, true, true, true, true, true, true, true, true, true, true, true, true, true, true, true, true, true, true, true, true, true, false, false, false, false, false, false, false, false, false] rfl rfl (by kernel_rfl) (fun _ _ _ h => h) (Or.inl ⟨by rfl, ?_⟩) ?_ ?_
      rotate_left
      · intro w'
        go_simp
        with_reducible rfl
      rotate_left
      · simp only [Act.put, List.setIfInBounds_toArray, List.set_cons_zero, List.set_cons_succ, i64_w, i32_w]
        rfl
      refine pure_ (i := 31) (N := some 140) (v := ?_) (a' := ?_) #[true, true, true, true, true, true, true, true, true, true, true, true, true, true, true, true, true, true, true, true, true, true, true, true, true, true, true, true, true, true, true, true, false, false, false, false, false, false, false, false] rfl rfl (by kernel_rfl) (fun _ _ _ h => h) (Or.inl ⟨by rfl, ?_⟩) ?_ ?_
      rotate_left
      · intro w'
        go_simp
        with_reducible rfl
      rotate_left
      · simp only [Act.put, List.setIfInBounds_toArray, List.set_cons_zero, List.set_cons_succ, i64_w, i32_w]
        rfl
      refine pure_ (i := 32) (N := some 141) (v := ?_) (a' := ?_) #[true, true, true, true, true, true, true, true, true, true, true, true, true, true, true, true, true, true, true, true, true, true, true, true, true, true, true, true, true, true, true, true, true, false, false, false, false, false, false, false] rfl rfl (by kernel_rfl) (fun _ _ _ h => h) (Or.inl ⟨by rfl, ?_⟩) ?_ ?_
      rotate_left
      · intro w'
        go_simp
        with_reducible rfl
      rotate_left
      · simp only [Act.put, List.setIfInBounds_toArray, List.set_cons_zero, List.set_cons_succ, i64_w, i32_w]
        rfl
      refine pure_ (i := 33) (N := some 142) (v := ?_) (a' := ?_) #[true, true, true, true, true, true, true, true, true, true, true, true, true, true, true, true, true, true, true, true, true, true, true, true, true, true, true, true, true, true, true, true, true, true, false, false, false, false, false, false] rfl rfl (by kernel_rfl) (fun _ _ _ h => h) (Or.inl ⟨by rfl, ?_⟩) ?_ ?_
      rotate_left
      · intro w'
        go_simp
        with_reducible rfl
      rotate_left
      · simp only [Act.put, List.setIfInBounds_toArray, List.set_cons_zero, List.set_cons_succ, i64_w, i32_w]
        rfl
      refine pure_ (i := 35) (N := some 144) (v := ?_) (a' := ?_) #[true, true, true, true, true, true, true, true, true, true, true, true, true, true, true, true, true, true, true, true, true, true, true, true, true, true, true, true, true, true, true, true, true, true, false, true, false, false, false, false] rfl rfl (by kernel_rfl) (fun _ _ _ h => h) (Or.inl ⟨by rfl, ?_⟩) ?_ ?_
      rotate_left
      · intro w'
        go_simp
        with_reducible rfl
      rotate_left
      · simp only [Act.put, List.setIfInBounds_toArray, List.set_cons_zero, List.set_cons_succ, i64_w, i32_w]
        rfl
      refine take_ (i := 36) (N := some 145) (v := ?_) (a' := ?_) #[true, true, true, true, true, true, true, true, true, true, true, true, true, true, true, true, true, true, true, true, true, true, true, true, true, true, true, true, true, true, true, true, true, true, false, true, true, false, false, false] rfl rfl (by kernel_rfl) (fun _ _ _ h => h) (Or.inl ⟨by rfl, ?_⟩) hHeld ?_ ?_
      rotate_left
      · rintro w' ⟨s0, s1⟩
        go_simp
        with_reducible rfl
      rotate_left
      · simp only [Act.put, List.setIfInBounds_toArray, List.set_cons_zero, List.set_cons_succ, i64_w, i32_w]
        rfl
      refine pure_ (i := 37) (N := some 146) (v := ?_) (a' := ?_) #[true, true, true, true, true, true, true, true, true, true, true, true, true, true, true, true, true, true, true, true, true, true, true, true, true, true, true, true, true, true, true, true, true, true, false, true, true, true, false, false] rfl rfl (by kernel_rfl) (fun _ _ _ h => h) (Or.inl ⟨by rfl, ?_⟩) ?_ ?_
      rotate_left
      · intro w'
        go_simp
        with_reducible rfl
      rotate_left
      · simp only [Act.put, List.setIfInBounds_toArray, List.set_cons_zero, List.set_cons_succ, i64_w, i32_w]
        rfl
      refine one_ (i := 34) (N := some 143) #[true, true, true, true, true, true, true, true, true, true, true, true, true, true, true, true, true, true, true, true, true, true, true, true, true, true, true, true, true, true, true, true, true, true, true, true, true, true, false, false] rfl rfl (by kernel_rfl) (by decide) (fun K hK => ?_)
      refine goes_ Try.func12 (by kernel_rfl) rfl #[.pointer (some ⟨g, 0, none⟩)] (by rfl) rfl rfl (by simp only [List.map_toArray, List.map_cons, List.map_nil]; rfl) ?_
      with_reducible refine (clen_calls C22.out).mono ?_
      rintro y w23 ⟨rfl, hb⟩
      refine ⟨_, rfl, ?_⟩
      have C23 := Aside0.mk (C22.out.below hb)
      have R23 := Aside0.mk (Kd.R_below R22.out hb)
      have X23 := Aside0.mk (blk_below X22.out hb)
      have B23 := Aside0.mk (below_step B22.out hb)
      clear hb
      refine hK.out _ _ ⟨(blk_cell X23.out 0).trans rfl, (blk_cell X23.out 1).trans rfl⟩ (fun hHeld => ?_)
      clear hK K
      refine norm_ (a' := ?_) ?_ ?_
      rotate_left
      · show Act.put _ (some 143) _ = _
        simp only [Act.put, List.setIfInBounds_toArray, List.set_cons_zero, List.set_cons_succ, i64_w, i32_w]
        rfl
      refine pure_ (i := 38) (N := some 147) (v := ?_) (a' := ?_) #[true, true, true, true, true, true, true, true, true, true, true, true, true, true, true, true, true, true, true, true, true, true, true, true, true, true, true, true, true, true, true, true, true, true, true, true, true, true, true, false] rfl rfl (by kernel_rfl) (fun _ _ _ h => h) (Or.inl ⟨by rfl, ?_⟩) ?_ ?_
      rotate_left
      · intro w'
        go_simp
        with_reducible rfl
      rotate_left
      · simp only [Act.put, List.setIfInBounds_toArray, List.set_cons_zero, List.set_cons_succ, i64_w, i32_w]
        rfl
      refine pure_ (i := 39) (N := some 148) (v := ?_) (a' := ?_) #[true, true, true, true, true, true, true, true, true, true, true, true, true, true, true, true, true, true, true, true, true, true, true, true, true, true, true, true, true, true, true, true, true, true, true, true, true, true, true, true] rfl rfl (by kernel_rfl) (fun _ _ _ h => h) (Or.inl ⟨by rfl, ?_⟩) ?_ ?_
      rotate_left
      · intro w'
        go_simp
        with_reducible rfl
      rotate_left
      · simp only [Act.put, List.setIfInBounds_toArray, List.set_cons_zero, List.set_cons_succ, i64_w, i32_w]
        rfl
      refine done_ (by kernel_rfl) ?_
      go_wp2_with fail
      exact HK.out _ _ _ _ _ _ _ _ _ _ _ _ _ _ _ _ _ _ _ _ _ _ _ _ _ _ _ _ _ _ _ _ _ _ _ _ _ _ _ _ _ _ _ _ _ _ _ _ _ _ _ _ _ _ _ _ _ _ _ _ _ _ _ _ _ _ _ _ _ _ _ _ _ _ _ _ _ _ _ _ _ _ _ _ _ _ _ _ _ _ _ _ _ _ _ _ _ _ _ _ _ _ _ _ _ _ _ _ _ _ _ _ _ _ _ _ _ _ _ _ _ _ _ _ _ _ _ _ _ _ _ _ _ _ _ _ _ _ _ _ _ _ _ (by first | rw [b2_] | rfl) C23.out R23.out X23.out J9.out HST2.out B23.out
    obtain ⟨x, hxm, hxe⟩ := hx
    obtain ⟨kf, hkf⟩ := (find_ev (d := d') (now + 1) ask (by have := HST2.out.hlen; have := HIL.out; omega)).rounds
    obtain ⟨a_, b_, hsp, hnea, -⟩ := split_at C9.out.names hxm
    have hfi : fi d' ask 0 = ((a_.length : Nat) : Int) := by rw [hsp, ← hxe, fi_at hnea]; omega
    rw [hfi] at hkf
    obtain ⟨p, hp⟩ : ∃ p, p = a_.length := ⟨_, rfl⟩
    rw [← hp] at hkf
    have HPX := Aside0.mk (show (rd_T51 (V d') ((p : Nat) : Int)).f1 = x.at_ ∧ p < d'.length from ⟨by rw [hsp, hp, V_at], by rw [hsp, hp]; simp⟩)
    have HXM := Aside0.mk hxm; have HXE := Aside0.mk hxe; have HKF := Aside0.mk hkf
    clear hsp hnea hfi hp hxm hxe hkf
    have HW := Aside0.mk (when_yes C9.out HXM.out)
    rw [HXE.out] at HW
    refine HW.out.mono ?_
    rintro y w20 ⟨rfl, hb⟩
    clear HW
    have C20 := Aside0.mk (C9.out.below hb); have R20 := Aside0.mk (Kd.R_below R9.out hb); have X20 := Aside0.mk (blk_below X9.out hb); have B20 := Aside0.mk (below_step B9.out hb)
    clear hb C9 R9 X9 B9
    have xc0 : w20.cell? ⟨g6, 0, none⟩ = some (.int .i64 (now + 1)) := (blk_cell X20.out 0).trans rfl; have xf0 := blk_frozen X20.out 0; have xc1 : w20.cell? ⟨g6, 1, none⟩ = some (.slice A5 d'.length c5) := (blk_cell X20.out 1).trans rfl; have xf1 := blk_frozen X20.out 1
    go_wp2_with fail
    obtain ⟨hl_, hr1_, hr2_⟩ := Kd.R_reads' R20.out
    have HCF := Aside0.mk (contraref08_Find.calls kf (now + 1) A5 c5 (V d') ask _ w20 (by first | exact hr2_ | (rw [V_len]; exact hr2_)) (by first | exact hr1_ | (rw [V_len]; exact hr1_)) HKF.out)
    rw [V_len] at HCF
    clear hl_ hr1_ hr2_
    refine HCF.out.mono ?_
    rintro y w21 ⟨rfl, hb⟩
    clear HCF xc0 xf0 xc1 xf1
    have C21 := Aside0.mk (C20.out.below hb); have R21 := Aside0.mk (Kd.R_below R20.out hb); have X21 := Aside0.mk (blk_below X20.out hb); have B21 := Aside0.mk (below_step B20.out hb)
    clear hb C20 R20 X20 B20
    go_wp2_with fail
    obtain ⟨ad, ea, -, y1⟩ := at_T51 (by have := (Kd.R_reads' R21.out).2.2; rwa [V_len] at this) ((p : Nat) : Int) (by omega) (by have := HPX.out.2; omega)
    rw [Int.toNat_natCast, HPX.out.1] at y1
    have Y1 := Aside0.mk y1
    clear y1
    subst ea
    have p0 : ((0 : Int) ≤ ((p : Nat) : Int)) = True := eq_true (by omega); have p1 : (((p : Nat) : Int) < (d'.length : Int)) = True := eq_true (by have := HPX.out.2; omega); have p2 : decide (((p : Nat) : Int) ≥ 0) = true := decide_eq_true (by omega); have p3 : decide ((0 : Int) ≤ ((p : Nat) : Int)) = true := decide_eq_true (by omega); have p4 : decide (((p : Nat) : Int) < (d'.length : Int)) = true := decide_eq_true (by have := HPX.out.2; omega)
    refine start_ (n := 40) (S := fun w' => w'.cell? ⟨g6, 0, none⟩ = some (.int .i64 (now + 1)) ∧ w'.cell? ⟨g6, 1, none⟩ = some (.slice (some ad) d'.length c5) ∧ w'.cell? ⟨(ad.add (p * 2)).block, (ad.add (p * 2)).off + 1, none⟩ = some (.int .i64 x.at_)) (ds := []) #[false, false, false, false, false, false, false, false, false, false, false, false, false, false, false, false, false, false, false, false, false, false, false, false, false, false, false, false, false, false, false, false, false, false, false, false, false, false, false, false] (by kernel_rfl) rfl rfl ⟨(blk_cell (blk_drew X21.out) 0).trans rfl, (blk_cell (blk_drew X21.out) 1).trans rfl, Y1.out⟩ (fun hHeld => ?_)
    refine pure_ (i := 0) (N := some 109) (v := ?_) (a' := ?_) #[true, false, false, false, false, false, false, false, false, false, false, false, false, false, false, false, false, false, false, false, false, false, false, false, false, false, false, false, false, false, false, false, false, false, false, false, false, false, false, false] rfl rfl (by kernel_rfl) (fun _ _ _ h => h) (Or.inl ⟨by rfl, ?_⟩) ?_ ?_
    rotate_left
    · intro w'
      go_simp
      with_reducible rfl
    rotate_left
    · simp only [Act.put, List.setIfInBounds_toArray, List.set_cons_zero, List.set_cons_succ, i64_w, i32_w]
      rfl
    refine pure_ (i := 1) (N := some 110) (v := ?_) (a' := ?_) #[true, true, false, false, false, false, false, false, false, false, false, false, false, false, false, false, false, false, false, false, false, false, false, false, false, false, false, false, false, false, false, false, false, false, false, false, false, false, false, false] rfl rfl (by kernel_rfl) (fun _ _ _ h => h) (Or.inl ⟨by rfl, ?_⟩) ?_ ?_
    rotate_left
    · intro w'
      go_simp
      with_reducible rfl
    rotate_left
    · simp only [Act.put, List.setIfInBounds_toArray, List.set_cons_zero, List.set_cons_succ, i64_w, i32_w]
      rfl
    refine pure_ (i := 2) (N := some 111) (v := ?_) (a' := ?_) #[true, true, true, false, false, false, false, false, false, false, false, false, false, false, false, false, false, false, false, false, false, false, false, false, false, false, false, false, false, false, false, false, false, false, false, false, false, false, false, false] rfl rfl (by kernel_rfl) (fun _ _ _ h => h) (Or.inl ⟨by rfl, ?_⟩) ?_ ?_
    rotate_left
    · intro w'
      go_simp
      with_reducible rfl
    rotate_left
    · simp only [Act.put, List.setIfInBounds_toArray, List.set_cons_zero, List.set_cons_succ, i64_w, i32_w]
      rfl
    refine pure_ (i := 3) (N := some 112) (v := ?_) (a' := ?_) #[true, true, true, true, false, false, false, false, false, false, false, false, false, false, false, false, false, false, false, false, false, false, false, false, false, false, false, false, false, false, false, false, false, false, false, false, false, false, false, false] rfl rfl (by kernel_rfl) (fun _ _ _ h => h) (Or.inl ⟨by rfl, ?_⟩) ?_ ?_
    rotate_left
    · intro w'
      go_simp
      with_reducible rfl
    rotate_left
    · simp only [Act.put, List.setIfInBounds_toArray, List.set_cons_zero, List.set_cons_succ, i64_w, i32_w]
      rfl
    refine pure_ (i := 4) (N := some 113) (v := ?_) (a' := ?_) #[true, true, true, true, true, false, false, false, false, false, false, false, false, false, false, false, false, false, false, false, false, false, false, false, false, false, false, false, false, false, false, false, false, false, false, false, false, false, false, false] rfl rfl (by kernel_rfl) (fun _ _ _ h => h) (Or.inl ⟨by rfl, ?_⟩) ?_ ?_
    rotate_left
    · intro w'
      go_simp
      with_reducible rfl
    rotate_left
    · simp only [Act.put, List.setIfInBounds_toArray, List.set_cons_zero, List.set_cons_succ, i64_w, i32_w]
      rfl
    refine pure_ (i := 5) (N := some 114) (v := ?_) (a' := ?_) #[true, true, true, true, true, true, false, false, false, false, false, false, false, false, false, false, false, false, false, false, false, false, false, false, false, false, false, false, false, false, false, false, false, false, false, false, false, false, false, false] rfl rfl (by kernel_rfl) (fun _ _ _ h => h) (Or.inl ⟨by rfl, ?_⟩) ?_ ?_
    rotate_left
    · intro w'
      go_simp
      with_reducible rfl
    rotate_left
    · simp only [Act.put, List.setIfInBounds_toArray, List.set_cons_zero, List.set_cons_succ, i64_w, i32_w]
      rfl
    refine pure_ (i := 6) (N := some 115) (v := ?_) (a' := ?_) #[true, true, true, true, true, true, true, false, false, false, false, false, false, false, false, false, false, false, false, false, false, false, false, false, false, false, false, false, false, false, false, false, false, false, false, false, false, false, false, false] rfl rfl (by kernel_rfl) (fun _ _ _ h => h) (Or.inl ⟨by rfl, ?_⟩) ?_ ?_
    rotate_left
    · intro w'
      go_simp
      with_reducible rfl
    rotate_left
    · simp only [Act.put, List.setIfInBounds_toArray, List.set_cons_zero, List.set_cons_succ, i64_w, i32_w]
      rfl
    refine pure_ (i := 7) (N := some 116) (v := ?_) (a' := ?_) #[true, true, true, true, true, true, true, true, false, false, false, false, false, false, false, false, false, false, false, false, false, false, false, false, false, false, false, false, false, false, false, false, false, false, false, false, false, false, false, false] rfl rfl (by kernel_rfl) (fun _ _ _ h => h) (Or.inl ⟨by rfl, ?_⟩) ?_ ?_
    rotate_left
    · intro w'
      go_simp
      with_reducible rfl
    rotate_left
    · simp only [Act.put, List.setIfInBounds_toArray, List.set_cons_zero, List.set_cons_succ, i64_w, i32_w]
      rfl
    refine pure_ (i := 8) (N := some 117) (v := ?_) (a' := ?_) #[true, true, true, true, true, true, true, true, true, false, false, false, false, false, false, false, false, false, false, false, false, false, false, false, false, false, false, false, false, false, false, false, false, false, false, false, false, false, false, false] rfl rfl (by kernel_rfl) (fun _ _ _ h => h) (Or.inl ⟨by rfl, ?_⟩) ?_ ?_
    rotate_left
    · intro w'
      go_simp
      with_reducible rfl
    rotate_left
    · simp only [Act.put, List.setIfInBounds_toArray, List.set_cons_zero, List.set_cons_succ, i64_w, i32_w]
      rfl
    refine pure_ (i := 10) (N := some 119) (v := ?_) (a' := ?_) #[true, true, true, true, true, true, true, true, true, false, true, false, false, false, false, false, false, false, false, false, false, false, false, false, false, false, false, false, false, false, false, false, false, false, false, false, false, false, false, false] rfl rfl (by kernel_rfl) (fun _ _ _ h => h) (Or.inl ⟨by rfl, ?_⟩) ?_ ?_
    rotate_left
    · intro w'
      go_simp
      with_reducible rfl
    rotate_left
    · simp only [Act.put, List.setIfInBounds_toArray, List.set_cons_zero, List.set_cons_succ, i64_w, i32_w]
      rfl
    refine take_ (i := 9) (N := some 118) (v := ?_) (a' := ?_) #[true, true, true, true, true, true, true, true, true, true, true, false, false, false, false, false, false, false, false, false, false, false, false, false, false, false, false, false, false, false, false, false, false, false, false, false, false, false, false, false] rfl rfl (by kernel_rfl) (fun _ _ _ h => h) (Or.inl ⟨by rfl, ?_⟩) hHeld ?_ ?_
    rotate_left
    · rintro w' ⟨s0, s1, s2⟩
      go_simp
      with_reducible rfl
    rotate_left
    · simp only [Act.put, List.setIfInBounds_toArray, List.set_cons_zero, List.set_cons_succ, i64_w, i32_w]
      rfl
    refine pure_ (i := 11) (N := some 120) (v := ?_) (a' := ?_) #[true, true, true, true, true, true, true, true, true, true, true, true, false, false, false, false, false, false, false, false, false, false, false, false, false, false, false, false, false, false, false, false, false, false, false, false, false, false, false, false] rfl rfl (by kernel_rfl) (fun _ _ _ h => h) (Or.inl ⟨by rfl, ?_⟩) ?_ ?_
    rotate_left
    · intro w'
      go_simp
      with_reducible rfl
    rotate_left
    · simp only [Act.put, List.setIfInBounds_toArray, List.set_cons_zero, List.set_cons_succ, i64_w, i32_w]
      rfl
    refine pure_ (i := 12) (N := some 121) (v := ?_) (a' := ?_) #[true, true, true, true, true, true, true, true, true, true, true, true, true, false, false, false, false, false, false, false, false, false, false, false, false, false, false, false, false, false, false, false, false, false, false, false, false, false, false, false] rfl rfl (by kernel_rfl) (fun _ _ _ h => h) (Or.inl ⟨by rfl, ?_⟩) ?_ ?_
    rotate_left
    · intro w'
      go_simp
      with_reducible rfl
    rotate_left
    · simp only [Act.put, List.setIfInBounds_toArray, List.set_cons_zero, List.set_cons_succ, i64_w, i32_w]
      rfl
    refine take_ (i := 13) (N := some 122) (v := ?_) (a' := ?_) #[true, true, true, true, true, true, true, true, true, true, true, true, true, true, false, false, false, false, false, false, false, false, false, false, false, false, false, false, false, false, false, false, false, false, false, false, false, false, false, false] rfl rfl (by kernel_rfl) (fun _ _ _ h => h) (Or.inl ⟨by rfl, ?_⟩) hHeld ?_ ?_
    rotate_left
    · rintro w' ⟨s0, s1, s2⟩
      go_simp
      with_reducible rfl
    rotate_left
    · simp only [Act.put, List.setIfInBounds_toArray, List.set_cons_zero, List.set_cons_succ, i64_w, i32_w]
      rfl
    refine pure_ (i := 14) (N := some 123) (v := ?_) (a' := ?_) #[true, true, true, true, true, true, true, true, true, true, true, true, true, true, true, false, false, false, false, false, false, false, false, false, false, false, false, false, false, false, false, false, false, false, false, false, false, false, false, false] rfl rfl (by kernel_rfl) (fun _ _ _ h => h) (Or.inl ⟨by rfl, ?_⟩) ?_ ?_
    rotate_left
    · intro w'
      go_simp
      with_reducible rfl
    rotate_left
    · simp only [Act.put, List.setIfInBounds_toArray, List.set_cons_zero, List.set_cons_succ, i64_w, i32_w]
      rfl
    refine pure_ (i := 15) (N := some 124) (v := ?_) (a' := ?_) #[true, true, true, true, true, true, true, true, true, true, true, true, true, true, true, true, false, false, false, false, false, false, false, false, false, false, false, false, false, false, false, false, false, false, false, false, false, false, false, false] rfl rfl (by kernel_rfl) (fun _ _ _ h => h) (Or.inl ⟨by rfl, ?_⟩) ?_ ?_
    rotate_left
    · intro w'
      go_simp
      with_reducible rfl
    rotate_left
    · simp only [Act.put, List.setIfInBounds_toArray, List.set_cons_zero, List.set_cons_succ, i64_w, i32_w]
      rfl
    refine pure_ (i := 16) (N := some 125) (v := ?_) (a' := ?_) #[true, true, true, true, true, true, true, true, true, true, true, true, true, true, true, true, true, false, false, false, false, false, false, false, false, false, false, false, false, false, false, false, false, false, false, false, false, false, false, false] rfl rfl (by kernel_rfl) (fun _ _ _ h => h) (Or.inl ⟨by rfl, ?_⟩) ?_ ?_
    rotate_left
    · intro w'
      go_simp
      with_reducible rfl
    rotate_left
    · simp only [Act.put, List.setIfInBounds_toArray, List.set_cons_zero, List.set_cons_succ, i64_w, i32_w]
      rfl
    refine pure_ (i := 17) (N := some 126) (v := ?_) (a' := ?_) #[true, true, true, true, true, true, true, true, true, true, true, true, true, true, true, true, true, true, false, false, false, false, false, false, false, false, false, false, false, false, false, false, false, false, false, false, false, false, false, false] rfl rfl (by kernel_rfl) (fun _ _ _ h => h) (Or.inl ⟨by rfl, ?_⟩) ?_ ?_
    rotate_left
    · intro w'
      go_simp
      with_reducible rfl
    rotate_left
    · simp only [Act.put, List.setIfInBounds_toArray, List.set_cons_zero, List.set_cons_succ, i64_w, i32_w]
      rfl
    refine pure_ (i := 18) (N := some 127) (v := ?_) (a' := ?_) #[true, true, true, true, true, true, true, true, true, true, true, true, true, true, true, true, true, true, true, false, false, false, false, false, false, false, false, false, false, false, false, false, false, false, false, false, false, false, false, false] rfl rfl (by kernel_rfl) (fun _ _ _ h => h) (Or.inl ⟨by rfl, ?_⟩) ?_ ?_
    rotate_left
    · intro w'
      go_simp
      with_reducible rfl
    rotate_left
    · simp only [Act.put, List.setIfInBounds_toArray, List.set_cons_zero, List.set_cons_succ, i64_w, i32_w]
      rfl
    refine pure_ (i := 19) (N := some 128) (v := ?_) (a' := ?_) #[true, true, true, true, true, true, true, true, true, true, true, true, true, true, true, true, true, true, true, true, false, false, false, false, false, false, false, false, false, false, false, false, false, false, false, false, false, false, false, false] rfl rfl (by kernel_rfl) (fun _ _ _ h => h) (Or.inl ⟨by rfl, ?_⟩) ?_ ?_
    rotate_left
    · intro w'
      go_simp
      with_reducible rfl
    rotate_left
    · simp only [Act.put, List.setIfInBounds_toArray, List.set_cons_zero, List.set_cons_succ, i64_w, i32_w]
      rfl
    refine pure_ (i := 20) (N := some 129) (v := ?_) (a' := ?_) #[true, true, true, true, true, true, true, true, true, true, true, true, true, true, true, true, true, true, true, true, true, false, false, false, false, false, false, false, false, false, false, false, false, false, false, false, false, false, false, false] rfl rfl (by kernel_rfl) (fun _ _ _ h => h) (Or.inl ⟨by rfl, ?_⟩) ?_ ?_
    rotate_left
    · intro w'
      go_simp
      with_reducible rfl
    rotate_left
    · simp only [Act.put, List.setIfInBounds_toArray, List.set_cons_zero, List.set_cons_succ, i64_w, i32_w]
      rfl
    refine pure_ (i := 21) (N := some 130) (v := undef) (a' := ?_) #[true, true, true, true, true, true, true, true, true, true, true, true, true, true, true, true, true, true, true, true, true, true, false, false, false, false, false, false, false, false, false, false, false, false, false, false, false, false, false, false] rfl rfl (by kernel_rfl) (fun _ _ _ h => h) (Or.inr ⟨by rfl, rfl⟩) ?_ ?_
    rotate_left
    · simp only [Act.put, List.setIfInBounds_toArray, List.set_cons_zero, List.set_cons_succ, i64_w, i32_w]
      rfl
    refine pure_ (i := 22) (N := some 131) (v := undef) (a' := ?_) #[true, true, true, true, true, true, true, true, true, true, true, true, true, true, true, true, true, true, true, true, true, true, true, false, false, false, false, false, false, false, false, false, false, false, false, false, false, false, false, false] rfl rfl (by kernel_rfl) (fun _ _ _ h => h) (Or.inr ⟨by rfl, rfl⟩) ?_ ?_
    rotate_left
    · simp only [Act.put, List.setIfInBounds_toArray, List.set_cons_zero, List.set_cons_succ, i64_w, i32_w]
      rfl
    refine pure_ (i := 23) (N := some 132) (v := ?_) (a' := ?_) #[true, true, true, true, true, true, true, true, true, true, true, true, true, true, true, true, true, true, true, true, true, true, true, true, false, false, false, false, false, false, false, false, false, false, false, false, false, false, false, false] rfl rfl (by kernel_rfl) (fun _ _ _ h => h) (Or.inl ⟨by rfl, ?_⟩) ?_ ?_
    rotate_left
    · intro w'
      go_simp
      with_reducible rfl
    rotate_left
    · simp only [Act.put, List.setIfInBounds_toArray, List.set_cons_zero, List.set_cons_succ, i64_w, i32_w]
      rfl
    refine pure_ (i := 24) (N := some 133) (v := ?_) (a' := ?_) #[true, true, true, true, true, true, true, true, true, true, true, true, true, true, true, true, true, true, true, true, true, true, true, true, true, false, false, false, false, false, false, false, false, false, false, false, false, false, false, false] rfl rfl (by kernel_rfl) (fun _ _ _ h => h) (Or.inl ⟨by rfl, ?_⟩) ?_ ?_
    rotate_left
    · intro w'
      go_simp
      with_reducible rfl
    rotate_left
    · simp only [Act.put, List.setIfInBounds_toArray, List.set_cons_zero, List.set_cons_succ, i64_w, i32_w]
      rfl
    refine pure_ (i := 25) (N := some 134) (v := ?_) (a' := ?_) #[true, true, true, true, true, true, true, true, true, true, true, true, true, true, true, true, true, true, true, true, true, true, true, true, true, true, false, false, false, false, false, false, false, false, false, false, false, false, false, false] rfl rfl (by kernel_rfl) (fun _ _ _ h => h) (Or.inl ⟨by rfl, ?_⟩) ?_ ?_
    rotate_left
    · intro w'
      go_simp
      with_reducible rfl
    rotate_left
    · simp only [Act.put, List.setIfInBounds_toArray, List.set_cons_zero, List.set_cons_succ, i64_w, i32_w]
      rfl
    refine pure_ (i := 26) (N := some 135) (v := ?_) (a' := ?_) #[true, true, true, true, true, true, true, true, true, true, true, true, true, true, true, true, true, true, true, true, true, true, true, true, true, true, true, false, false, false, false, false, false, false, false, false, false, false, false, false] rfl rfl (by kernel_rfl) (fun _ _ _ h => h) (Or.inl ⟨by rfl, ?_⟩) ?_ ?_
    rotate_left
    · intro w'
      go_simp
      with_reducible rfl
    rotate_left
    · simp only [Act.put, List.setIfInBounds_toArray, List.set_cons_zero, List.set_cons_succ, i64_w, i32_w]
      rfl
    refine pure_ (i := 28) (N := some 137) (v := ?_) (a' := ?_) #[true, true, true, true, true, true, true, true, true, true, true, true, true, true, true, true, true, true, true, true, true, true, true, true, true, true, true, false, true, false, false, false, false, false, false, false, false, false, false, false] rfl rfl (by kernel_rfl) (fun _ _ _ h => h) (Or.inl ⟨by rfl, ?_⟩) ?_ ?_
    rotate_left
    · intro w'
      go_simp
      with_reducible rfl
    rotate_left
    · simp only [Act.put, List.setIfInBounds_toArray, List.set_cons_zero, List.set_cons_succ, i64_w, i32_w]
      rfl
    refine take_ (i := 29) (N := some 138) (v := ?_) (a' := ?_) #[true, true, true, true, true, true, true, true, true, true, true, true, true, true, true, true, true, true, true, true, true, true, true, true, true, true, true, false, true, true, false, false, false, false, false, false, false, false, false, false] rfl rfl (by kernel_rfl) (fun _ _ _ h => h) (Or.inl ⟨by rfl, ?_⟩) hHeld ?_ ?_
    rotate_left
    · rintro w' ⟨s0, s1, s2⟩
      go_simp
      with_reducible rfl
    rotate_left
    · simp only [Act.put, List.setIfInBounds_toArray, List.set_cons_zero, List.set_cons_succ, i64_w, i32_w]
      rfl
    refine one_ (i := 27) (N := some 136) #[true, true, true, true, true, true, true, true, true, true, true, true, true, true, true, true, true, true, true, true, true, true, true, true, true, true, true, true, true, true, false, false, false, false, false, false, false, false, false, false] rfl rfl (by kernel_rfl) (by decide) (fun K hK => ?_)
    refine goes_ Try.func14 (by kernel_rfl) rfl #[.pointer (some ⟨g, 0, none⟩)] (by rfl) rfl rfl (by simp only [List.map_toArray, List.map_cons, List.map_nil]; rfl) ?_
    with_reducible refine (now_calls (w := w21.drew) C21.out.drew).mono ?_
    rintro y w22 ⟨rfl, hb⟩
    refine ⟨_, rfl, ?_⟩
    have C22 := Aside0.mk (C21.out.drew.below hb)
    have R22 := Aside0.mk (Kd.R_below (Kd.R_below R21.out (below_drew (Below.refl _ _))) hb)
    have X22 := Aside0.mk (blk_below (blk_drew X21.out) hb)
    have B22 := Aside0.mk (below_step (below_drew B21.out) hb)
    have Y22 := Aside0.mk (cell_bel_ (w := w21.drew) Y1.out hb)
    clear hb
    refine hK.out _ _ ⟨(blk_cell X22.out 0).trans rfl, (blk_cell X22.out 1).trans rfl, Y22.out⟩ (fun hHeld => ?_)
    clear hK K
    refine norm_ (a' := ?_) ?_ ?_
    rotate_left
    · show Act.put _ (some 136) _ = _
      simp only [Act.put, List.setIfInBounds_toArray, List.set_cons_zero, List.set_cons_succ, i64_w, i32_w]
      rfl
    refine pure_ (i := 30) (N := some 139) (v := ?_) (a' := ?_) #[true, true, true, true, true, true, true, true, true, true, true, true, true, true, true, true, true, true, true, true, true, true, true, true, true, true, true, true, true, true, true, false, false, false, false, false, false, false, false, false] rfl rfl (by kernel_rfl) (fun _ _ _ h => h) (Or.inl ⟨by rfl, ?_⟩) ?_ ?_
    rotate_left
    · intro w'
      go_simp
      with_reducible rfl
    rotate_left
    · simp only [Act.put, List.setIfInBounds_toArray, List.set_cons_zero, List.set_cons_succ, i64_w, i32_w]
      rfl
    refine pure_ (i := 31) (N := some 140) (v := ?_) (a' := ?_) #[true, true, true, true, true, true, true, true, true, true, true, true, true, true, true, true, true, true, true, true, true, true, true, true, true, true, true, true, true, true, true, true, false, false, false, false, false, false, false, false] rfl rfl (by kernel_rfl) (fun _ _ _ h => h) (Or.inl ⟨by rfl, ?_⟩) ?_ ?_
    rotate_left
    · intro w'
      go_simp
      with_reducible rfl
    rotate_left
    · simp only [Act.put, List.setIfInBounds_toArray, List.set_cons_zero, List.set_cons_succ, i64_w, i32_w]
      rfl
    refine pure_ (i := 32) (N := some 141) (v := ?_) (a' := ?_) #[true, true, true, true, true, true, true, true, true, true, true, true, true, true, true, true, true, true, true, true, true, true, true, true, true, true, true, true, true, true, true, true, true, false, false, false, false, false, false, false] rfl rfl (by kernel_rfl) (fun _ _ _ h => h) (Or.inl ⟨by rfl, ?_⟩) ?_ ?_
    rotate_left
    · intro w'
      go_simp
      with_reducible rfl
    rotate_left
    · simp only [Act.put, List.setIfInBounds_toArray, List.set_cons_zero, List.set_cons_succ, i64_w, i32_w]
      rfl
    refine pure_ (i := 33) (N := some 142) (v := ?_) (a' := ?_) #[true, true, true, true, true, true, true, true, true, true, true, true, true, true, true, true, true, true, true, true, true, true, true, true, true, true, true, true, true, true, true, true, true, true, false, false, false, false, false, false] rfl rfl (by kernel_rfl) (fun _ _ _ h => h) (Or.inl ⟨by rfl, ?_⟩) ?_ ?_
    rotate_left
    · intro w'
      go_simp
      with_reducible rfl
    rotate_left
    · simp only [Act.put, List.setIfInBounds_toArray, List.set_cons_zero, List.set_cons_succ, i64_w, i32_w]
      rfl
    refine pure_ (i := 35) (N := some 144) (v := ?_) (a' := ?_) #[true, true, true, true, true, true, true, true, true, true, true, true, true, true, true, true, true, true, true, true, true, true, true, true, true, true, true, true, true, true, true, true, true, true, false, true, false, false, false, false] rfl rfl (by kernel_rfl) (fun _ _ _ h => h) (Or.inl ⟨by rfl, ?_⟩) ?_ ?_
    rotate_left
    · intro w'
      go_simp
      with_reducible rfl
    rotate_left
    · simp only [Act.put, List.setIfInBounds_toArray, List.set_cons_zero, List.set_cons_succ, i64_w, i32_w]
      rfl
    refine take_ (i := 36) (N := some 145) (v := ?_) (a' := ?_) #[true, true, true, true, true, true, true, true, true, true, true, true, true, true, true, true, true, true, true, true, true, true, true, true, true, true, true, true, true, true, true, true, true, true, false, true, true, false, false, false] rfl rfl (by kernel_rfl) (fun _ _ _ h => h) (Or.inl ⟨by rfl, ?_⟩) hHeld ?_ ?_
    rotate_left
    · rintro w' ⟨s0, s1, s2⟩
      go_simp
      with_reducible rfl
    rotate_left
    · simp only [Act.put, List.setIfInBounds_toArray, List.set_cons_zero, List.set_cons_succ, i64_w, i32_w]
      rfl
    refine pure_ (i := 37) (N := some 146) (v := ?_) (a' := ?_) #[true, true, true, true, true, true, true, true, true, true, true, true, true, true, true, true, true, true, true, true, true, true, true, true, true, true, true, true, true, true, true, true, true, true, false, true, true, true, false, false] rfl rfl (by kernel_rfl) (fun _ _ _ h => h) (Or.inl ⟨by rfl, ?_⟩) ?_ ?_
    rotate_left
    · intro w'
      go_simp
      with_reducible rfl
    rotate_left
    · simp only [Act.put, List.setIfInBounds_toArray, List.set_cons_zero, List.set_cons_succ, i64_w, i32_w]
      rfl
    refine one_ (i := 34) (N := some 143) #[true, true, true, true, true, true, true, true, true, true, true, true, true, true, true, true, true, true, true, true, true, true, true, true, true, true, true, true, true, true, true, true, true, true, true, true, true, true, false, false] rfl rfl (by kernel_rfl) (by decide) (fun K hK => ?_)
    refine goes_ Try.func12 (by kernel_rfl) rfl #[.pointer (some ⟨g, 0, none⟩)] (by rfl) rfl rfl (by simp only [List.map_toArray, List.map_cons, List.map_nil]; rfl) ?_
    with_reducible refine (clen_calls C22.out).mono ?_
    rintro y w23 ⟨rfl, hb⟩
    refine ⟨_, rfl, ?_⟩
    have C23 := Aside0.mk (C22.out.below hb)
    have R23 := Aside0.mk (Kd.R_below R22.out hb)
    have X23 := Aside0.mk (blk_below X22.out hb)
    have B23 := Aside0.mk (below_step B22.out hb)
    have Y23 := Aside0.mk (cell_bel_ Y22.out hb)
    clear hb
    refine hK.out _ _ ⟨(blk_cell X23.out 0).trans rfl, (blk_cell X23.out 1).trans rfl, Y23.out⟩ (fun hHeld => ?_)
    clear hK K
    refine norm_ (a' := ?_) ?_ ?_
    rotate_left
    · show Act.put _ (some 143) _ = _
      simp only [Act.put, List.setIfInBounds_toArray, List.set_cons_zero, List.set_cons_succ, i64_w, i32_w]
      rfl
    refine pure_ (i := 38) (N := some 147) (v := ?_) (a' := ?_) #[true, true, true, true, true, true, true, true, true, true, true, true, true, true, true, true, true, true, true, true, true, true, true, true, true, true, true, true, true, true, true, true, true, true, true, true, true, true, true, false] rfl rfl (by kernel_rfl) (fun _ _ _ h => h) (Or.inl ⟨by rfl, ?_⟩) ?_ ?_
    rotate_left
    · intro w'
      go_simp
      with_reducible rfl
    rotate_left
    · simp only [Act.put, List.setIfInBounds_toArray, List.set_cons_zero, List.set_cons_succ, i64_w, i32_w]
      rfl
    refine pure_ (i := 39) (N := some 148) (v := ?_) (a' := ?_) #[true, true, true, true, true, true, true, true, true, true, true, true, true, true, true, true, true, true, true, true, true, true, true, true, true, true, true, true, true, true, true, true, true, true, true, true, true, true, true, true] rfl rfl (by kernel_rfl) (fun _ _ _ h => h) (Or.inl ⟨by rfl, ?_⟩) ?_ ?_
    rotate_left
    · intro w'
      go_simp
      with_reducible rfl
    rotate_left
    · simp only [Act.put, List.setIfInBounds_toArray, List.set_cons_zero, List.set_cons_succ, i64_w, i32_w]
      rfl
    refine done_ (by kernel_rfl) ?_
    go_wp2_with fail
    exact HK.out _ _ _ _ _ _ _ _ _ _ _ _ _ _ _ _ _ _ _ _ _ _ _ _ _ _ _ _ _ _ _ _ _ _ _ _ _ _ _ _ _ _ _ _ _ _ _ _ _ _ _ _ _ _ _ _ _ _ _ _ _ _ _ _ _ _ _ _ _ _ _ _ _ _ _ _ _ _ _ _ _ _ _ _ _ _ _ _ _ _ _ _ _ _ _ _ _ _ _ _ _ _ _ _ _ _ _ _ _ _ _ _ _ _ _ _ _ _ _ _ _ _ _ _ _ _ _ _ _ _ _ _ _ _ _ _ _ _ _ (some ad) _ _ _ (by first | rw [b2_] | rfl) C23.out R23.out X23.out J9.out HST2.out B23.out
end Go.Proofs.Ytdodaepdghlolaa.Pure
