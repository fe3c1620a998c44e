/-
  WholeLife's second loop: its round.
-/
import Derived.Test.YtianljjmnpdkcaaHLife3
import Derived.Deep.CutBlock
import Derived.Deep.DeepCutAuto
namespace Go.Proofs.Ytianljjmnpdkcaa.Pure
open Go.RowKit Go.Proofs.Ytianljjmnpdkcaa.M Go.Proofs.YtianljjmnpdkcaaW.PrintWords Go.Proofs.YtianljjmnpdkcaaW.PrintLast Go.Proofs.YtianljjmnpdkcaaW.PrintMore
set_option linter.unusedVariables false
set_option linter.unusedSimpArgs false
noncomputable def body2 : Code := loopBody (Try.f3.body.bind (findC (isBlock 2)))
theorem actC {l : List S38} {w : World} {A : Option Addr} (h : Kd.C k38 w A l.length l) {i : Nat} (hi : i < l.length) : ∃ ad, A = some ad ∧ w.cell? (ad.add (i * 3)) = some (.int .i64 (l.getD i z38).f0) ∧ w.cell? ⟨(ad.add (i * 3)).block, (ad.add (i * 3)).off + 1, none⟩ = some (.int .i64 (l.getD i z38).f1) ∧ w.cell? ⟨(ad.add (i * 3)).block, (ad.add (i * 3)).off + 2, none⟩ = some (.int .i64 (l.getD i z38).f2) := by
  have := at_T38 h (i : Int) (by omega) (by omega)
  unfold rd_T38 at this
  rw [Int.toNat_natCast] at this
  exact this
theorem rem_ (a : Int) (n : Nat) (h0 : 0 ≤ a) (hn : 0 < n) : ∃ k : Nat, k < n ∧ a.tmod (n : Int) = (k : Int) ∧ a % (n : Int) = (k : Int) ∧ (k : Int).toNat = k := by
  refine ⟨(a % (n : Int)).toNat, ?_, ?_, ?_, ?_⟩
  · have := Int.emod_lt_of_pos a (show (0 : Int) < (n : Int) by omega); have := Int.emod_nonneg a (show (n : Int) ≠ 0 by omega); omega
  · rw [Int.tmod_eq_emod_of_nonneg h0]; have := Int.emod_nonneg a (show (n : Int) ≠ 0 by omega); omega
  · have := Int.emod_nonneg a (show (n : Int) ≠ 0 by omega); omega
  · exact Int.toNat_natCast _
set_option maxHeartbeats 16000000 in
set_option maxRecDepth 1000000 in
theorem life_two {w wa : World} {l1 : List S38} {l : List S33} {i m q5 q7 k1 : Nat} {g5 g7 : Nat} {A1 P5 P7 : Option Addr} {c0 c1 c2 c3 c4 c6 c8 c9 c10 c11 c12 c13 c14 c15 c16 c17 c18 c19 c20 c21 c22 c23 c24 c25 c26 c27 c28 c29 c30 c31 c32 c33 c34 c35 c36 c37 c38 c39 c40 c41 c42 c43 c44 c45 c46 c47 c48 c49 c50 c51 c52 c53 c54 c55 c56 c57 c58 c59 c60 c61 c62 c63 c64 c65 c66 c67 c68 c69 c70 c71 c72 c73 c74 c75 c76 c77 c78 c79 c80 c81 c82 c83 c84 c85 c86 c87 c88 c89 c90 c94 c95 c96 c97 c98 c99 c100 c101 c102 c103 c104 c105 c106 c107 c108 c109 c110 c111 c112 c113 c114 c115 c116 c117 c118 c119 c120 c121 c122 c123 c124 c125 c126 c127 c128 c129 c130 c131 c132 c133 c134 c135 c136 c137 c138 c139 c140 c141 c142 c143 c144 c145 c146 c147 c148 c149 c150 c151 c152 c153 c154 c155 c156 c157 c158 c159 c160 c161 c162 c163 c164 c165 c166 c167 c168 c169 c170 c171 c172 c173 c174 c175 c176 c177 c178 c179 c180 c181 c182 c183 c184 c185 c186 c187 c188 c189 c190 c191 c192 c193 c194 c195 c196 c197 c198 c199 c200 c201 c202 c203 c204 c205 c206 c207 c208 c209 c210 c211 c212 c213 c214 c215 c216 c217 c218 c219 c220 c221 c222 c223 c224 c225 c226 c227 c228 c229 c230 c231 c232 c233 c234 c235 c236 c237 c238 c239 c240 c241 c242 c243 c244 c245 c246 c247 c248 c249 c250 c251 c252 c253 c254 c255 c256 c257 c258 c259 c260 c261 c262 c263 c264 c265 c266 c267 c268 c269 c270 c271 c272 c273 c274 : Value} {K K1 : Act → World → Prop} (hi : i < l1.length) (hl1 : l1.length ≤ 60) (hB : Both l m) (hm : m ≤ 100)
    (hC : Kd.C k38 w A1 l1.length l1) (hg5 : w.heap.size ≤ g5) (hg7 : g5 < g7) (hL : LS w wa g5 g7 P5 P7 q5 q7 l)
    (hK : ∀ (u4 u8 u14 u15 u16 u17 u18 u19 u20 u21 u22 u23 u24 u25 u26 u27 u94 u95 u96 u97 u98 u99 u100 u101 u102 u103 u104 u105 u106 u107 u108 u109 u110 u111 u112 u113 u114 u115 u116 u117 u118 u119 u120 u121 u122 u123 u124 u125 u126 u127 u128 u129 u130 u131 u132 u133 u134 u135 u136 u137 u138 u139 u140 u141 u142 u143 u144 u145 u146 u147 u148 u149 u150 u151 u152 u153 u154 u155 u156 u157 u158 u159 u160 u161 u162 u163 u164 u165 u166 u167 u168 u169 u170 u171 u172 u173 u174 u175 u176 u177 u178 u179 u180 u181 u182 u183 u184 u185 u186 u187 u188 u189 u190 u191 u192 u193 u194 u195 u196 u197 u198 u199 u200 u201 u202 u203 u204 u205 u206 u207 u208 u209 u210 u211 u212 u213 u214 u215 u216 u217 u218 u219 u220 u221 u222 u223 u224 u225 u226 u227 u228 u229 u230 u231 u232 u233 u234 u235 u236 u237 u238 u239 u240 u241 u242 u243 u244 u245 u246 u247 u248 u249 u250 u251 u252 u253 u254 u255 u256 u257 u258 u259 u260 u261 u262 u263 u264 u265 u266 u267 : Value) (w' : World) (l' : List S33), Both l' (m + 1) → LS w w' g5 g7 P5 P7 q5 q7 l' → K ⟨#[c0, c1, c2, c3, u4, .pointer (some ⟨g5, 0, none⟩), c6, .pointer (some ⟨g7, 0, none⟩), u8, c9, c10, c11, c12, c13, u14, u15, u16, u17, u18, u19, u20, u21, u22, u23, u24, u25, u26, u27, c28, c29, c30, c31, c32, c33, c34, c35, c36, c37, c38, c39, c40, c41, c42, c43, c44, c45, c46, c47, c48, c49, c50, c51, c52, c53, c54, c55, c56, c57, c58, c59, c60, c61, c62, c63, c64, c65, c66, c67, c68, c69, c70, c71, c72, c73, c74, c75, c76, c77, c78, c79, c80, c81, c82, c83, c84, c85, c86, c87, c88, c89, c90, .slice A1 l1.length k1, .int .i64 (l1.length : Int), .int .i64 (wrap64 ((i : Int) + 1)), u94, u95, u96, u97, u98, u99, u100, u101, u102, u103, u104, u105, u106, u107, u108, u109, u110, u111, u112, u113, u114, u115, u116, u117, u118, u119, u120, u121, u122, u123, u124, u125, u126, u127, u128, u129, u130, u131, u132, u133, u134, u135, u136, u137, u138, u139, u140, u141, u142, u143, u144, u145, u146, u147, u148, u149, u150, u151, u152, u153, u154, u155, u156, u157, u158, u159, u160, u161, u162, u163, u164, u165, u166, u167, u168, u169, u170, u171, u172, u173, u174, u175, u176, u177, u178, u179, u180, u181, u182, u183, u184, u185, u186, u187, u188, u189, u190, u191, u192, u193, u194, u195, u196, u197, u198, u199, u200, u201, u202, u203, u204, u205, u206, u207, u208, u209, u210, u211, u212, u213, u214, u215, u216, u217, u218, u219, u220, u221, u222, u223, u224, u225, u226, u227, u228, u229, u230, u231, u232, u233, u234, u235, u236, u237, u238, u239, u240, u241, u242, u243, u244, u245, u246, u247, u248, u249, u250, u251, u252, u253, u254, u255, u256, u257, u258, u259, u260, u261, u262, u263, u264, u265, u266, u267, c268, c269, c270, c271, c272, c273, c274], []⟩ w') :
    Code.wp Try.prog body2 (Exit.then K (Exit.inBlock 2 (Exit.then K1 (bodyPost Try.prog Try.f3 (fun e w' => e = .returned (.bool true) ∧ Below w.heap.size w w'))))) ⟨#[c0, c1, c2, c3, c4, .pointer (some ⟨g5, 0, none⟩), c6, .pointer (some ⟨g7, 0, none⟩), c8, c9, c10, c11, c12, c13, c14, c15, c16, c17, c18, c19, c20, c21, c22, c23, c24, c25, c26, c27, c28, c29, c30, c31, c32, c33, c34, c35, c36, c37, c38, c39, c40, c41, c42, c43, c44, c45, c46, c47, c48, c49, c50, c51, c52, c53, c54, c55, c56, c57, c58, c59, c60, c61, c62, c63, c64, c65, c66, c67, c68, c69, c70, c71, c72, c73, c74, c75, c76, c77, c78, c79, c80, c81, c82, c83, c84, c85, c86, c87, c88, c89, c90, .slice A1 l1.length k1, .int .i64 (l1.length : Int), .int .i64 (i : Int), c94, c95, c96, c97, c98, c99, c100, c101, c102, c103, c104, c105, c106, c107, c108, c109, c110, c111, c112, c113, c114, c115, c116, c117, c118, c119, c120, c121, c122, c123, c124, c125, c126, c127, c128, c129, c130, c131, c132, c133, c134, c135, c136, c137, c138, c139, c140, c141, c142, c143, c144, c145, c146, c147, c148, c149, c150, c151, c152, c153, c154, c155, c156, c157, c158, c159, c160, c161, c162, c163, c164, c165, c166, c167, c168, c169, c170, c171, c172, c173, c174, c175, c176, c177, c178, c179, c180, c181, c182, c183, c184, c185, c186, c187, c188, c189, c190, c191, c192, c193, c194, c195, c196, c197, c198, c199, c200, c201, c202, c203, c204, c205, c206, c207, c208, c209, c210, c211, c212, c213, c214, c215, c216, c217, c218, c219, c220, c221, c222, c223, c224, c225, c226, c227, c228, c229, c230, c231, c232, c233, c234, c235, c236, c237, c238, c239, c240, c241, c242, c243, c244, c245, c246, c247, c248, c249, c250, c251, c252, c253, c254, c255, c256, c257, c258, c259, c260, c261, c262, c263, c264, c265, c266, c267, c268, c269, c270, c271, c272, c273, c274], []⟩ wa := by
  obtain ⟨A5, A7, n, c5, c7, hn, h5, h7, r5, r7, ba⟩ := hL
  have HHK := Aside0.mk hK; have HB := Aside0.mk hB; have HN := Aside0.mk hn; have K5 := Aside0.mk h5; have K7 := Aside0.mk h7; have R5 := Aside0.mk r5; have R7 := Aside0.mk r7; have BA := Aside0.mk ba; have G5 := Aside0.mk hg5; have G7 := Aside0.mk hg7; have HM := Aside0.mk hm
  have i1 : decide ((i : Int) < (l1.length : Int)) = true := decide_eq_true (by omega)
  have i2 : decide (i < l1.length) = true := decide_eq_true hi
  have i3 : (i < l1.length) = True := eq_true hi
  have hi0 : (0 : Int) ≤ (i : Int) := by omega
  have hi1 : (i : Int) < (l1.length : Int) := by omega
  obtain ⟨ad, ea, e0, e1, e2⟩ := actC (Kd.C_below hC ba) hi
  subst ea
  have q1 := eq_true hi0; have q2 := eq_true hi1; have q3 : decide ((0 : Int) ≤ (i : Int)) = true := decide_eq_true hi0
  obtain ⟨q, hq⟩ : ∃ q, q = l1.getD i z38 := ⟨_, rfl⟩
  rw [← hq] at e0 e1 e2
  clear hi hi0 hi1 hq hn h5 h7 r5 r7 ba hg5 hg7 hm hK hB hC hl1
  by_cases hn0 : n = 0
  · have z1 : ((n : Int) == 0) = true := beq_iff_eq.mpr (by omega)
    have z2 : (n = 0) = True := eq_true hn0
    have z3 : (n == 0) = true := beq_iff_eq.mpr hn0
    clear hn0
    conv => arg 2; whnf
    go_wp2_with (first | ((with_reducible refine gate_dst (N := 14) rfl ?_); refine box_event ?hg (N := 14) ?hd (cs := #[.int .i64 0, .int .i64 0, .int .i64 0]) (t := 38) ?hr ?_; (case hd => rfl); (case hg => rfl); (case hr => first | (go_simp; done) | (go_simp; rfl)); intro g14 hg wbm hbox hb; have Bm := Aside0.mk hb; have K14m := Aside0.mk hbox; have G14 := Aside0.mk (show wa.heap.size ≤ g14 from by rw [hg]; exact Nat.le_refl _); clear hb hg hbox) | ((with_reducible refine gate_store (t := 38) (p := 14) (v := .tmp 96) rfl ?_); refine ev_store (old := #[.int .i64 0, .int .i64 0, .int .i64 0]) (new := #[.int .i64 q.f0, .int .i64 q.f1, .int .i64 q.f2]) (.tmp 14) (.tmp 96) rfl rfl rfl rfl rfl K14m.out (by kernel_rfl) rfl ?h1_ ?_; (case h1_ => intro q hq; simp at hq; rcases hq with rfl | rfl | rfl <;> rfl); intro wb hK_ hP_; have Bb := Aside0.mk (hP_.below G14.out Bm.out); have K14b := Aside0.mk hK_; have BB := Aside0.mk (below_step BA.out Bb.out); have Bb_ := Aside0.mk Bb.out.size; have K5b := Aside0.mk (blk_below K5.out Bb.out); have K7b := Aside0.mk (blk_below K7.out Bb.out); have R5b := Aside0.mk (Kd.R_below R5.out Bb.out); have R7b := Aside0.mk (Kd.R_below R7.out Bb.out); clear hK_ hP_ Bm K14m e0 e1 e2; have b5c0 : wb.cell? ⟨g5, 0, none⟩ = some (.int .i64 0) := (blk_cell K5b.out 0).trans rfl; have b5f0 := blk_frozen K5b.out 0; have b5c1 : wb.cell? ⟨g5, 1, none⟩ = some (.slice A5 n c5) := (blk_cell K5b.out 1).trans rfl; have b5f1 := blk_frozen K5b.out 1; have b5c2 : wb.cell? ⟨g5, 2, none⟩ = some (.slice P5 0 q5) := (blk_cell K5b.out 2).trans rfl; have b5f2 := blk_frozen K5b.out 2; have ac0 : wb.cell? ⟨g14, 0, none⟩ = some (.int .i64 q.f0) := (blk_cell K14b.out 0).trans rfl; have af0 := blk_frozen K14b.out 0; have ac1 : wb.cell? ⟨g14, 1, none⟩ = some (.int .i64 q.f1) := (blk_cell K14b.out 1).trans rfl; have af1 := blk_frozen K14b.out 1; have ac2 : wb.cell? ⟨g14, 2, none⟩ = some (.int .i64 q.f2) := (blk_cell K14b.out 2).trans rfl; have af2 := blk_frozen K14b.out 2))
    exact HHK.out _ _ _ _ _ _ _ _ _ _ _ _ _ _ _ _ _ _ _ _ _ _ _ _ _ _ _ _ _ _ _ _ _ _ _ _ _ _ _ _ _ _ _ _ _ _ _ _ _ _ _ _ _ _ _ _ _ _ _ _ _ _ _ _ _ _ _ _ _ _ _ _ _ _ _ _ _ _ _ _ _ _ _ _ _ _ _ _ _ _ _ _ _ _ _ _ _ _ _ _ _ _ _ _ _ _ _ _ _ _ _ _ _ _ _ _ _ _ _ _ _ _ _ _ _ _ _ _ _ _ _ _ _ _ _ _ _ _ _ _ _ _ _ _ _ _ _ _ _ _ _ _ _ _ _ _ _ _ _ _ _ _ _ _ _ _ _ _ _ _ _ _ _ _ _ _ _ _ _ _ _ _ _ _ _ _ _ _ _ _ wb l (HB.out.more (Nat.le_succ _)) ⟨_, _, _, _, _, HN.out, K5b.out, K7b.out, R5b.out, R7b.out, BB.out⟩
  have z1 : ((n : Int) == 0) = false := beq_eq_false_iff_ne.mpr (by omega)
  have z2 : (n = 0) = False := eq_false hn0
  have z3 : (n == 0) = false := beq_eq_false_iff_ne.mpr hn0
  have z4 : ((n : Int) = 0) = False := eq_false (by omega)
  by_cases hneg : q.f0 < 0
  · have y1 : decide (q.f0 < 0) = true := decide_eq_true hneg
    clear hn0 hneg
    conv => arg 2; whnf
    go_wp2_with (first | ((with_reducible refine gate_dst (N := 14) rfl ?_); refine box_event ?hg (N := 14) ?hd (cs := #[.int .i64 0, .int .i64 0, .int .i64 0]) (t := 38) ?hr ?_; (case hd => rfl); (case hg => rfl); (case hr => first | (go_simp; done) | (go_simp; rfl)); intro g14 hg wbm hbox hb; have Bm := Aside0.mk hb; have K14m := Aside0.mk hbox; have G14 := Aside0.mk (show wa.heap.size ≤ g14 from by rw [hg]; exact Nat.le_refl _); clear hb hg hbox) | ((with_reducible refine gate_store (t := 38) (p := 14) (v := .tmp 96) rfl ?_); refine ev_store (old := #[.int .i64 0, .int .i64 0, .int .i64 0]) (new := #[.int .i64 q.f0, .int .i64 q.f1, .int .i64 q.f2]) (.tmp 14) (.tmp 96) rfl rfl rfl rfl rfl K14m.out (by kernel_rfl) rfl ?h1_ ?_; (case h1_ => intro q hq; simp at hq; rcases hq with rfl | rfl | rfl <;> rfl); intro wb hK_ hP_; have Bb := Aside0.mk (hP_.below G14.out Bm.out); have K14b := Aside0.mk hK_; have BB := Aside0.mk (below_step BA.out Bb.out); have Bb_ := Aside0.mk Bb.out.size; have K5b := Aside0.mk (blk_below K5.out Bb.out); have K7b := Aside0.mk (blk_below K7.out Bb.out); have R5b := Aside0.mk (Kd.R_below R5.out Bb.out); have R7b := Aside0.mk (Kd.R_below R7.out Bb.out); clear hK_ hP_ Bm K14m e0 e1 e2; have b5c0 : wb.cell? ⟨g5, 0, none⟩ = some (.int .i64 0) := (blk_cell K5b.out 0).trans rfl; have b5f0 := blk_frozen K5b.out 0; have b5c1 : wb.cell? ⟨g5, 1, none⟩ = some (.slice A5 n c5) := (blk_cell K5b.out 1).trans rfl; have b5f1 := blk_frozen K5b.out 1; have b5c2 : wb.cell? ⟨g5, 2, none⟩ = some (.slice P5 0 q5) := (blk_cell K5b.out 2).trans rfl; have b5f2 := blk_frozen K5b.out 2; have ac0 : wb.cell? ⟨g14, 0, none⟩ = some (.int .i64 q.f0) := (blk_cell K14b.out 0).trans rfl; have af0 := blk_frozen K14b.out 0; have ac1 : wb.cell? ⟨g14, 1, none⟩ = some (.int .i64 q.f1) := (blk_cell K14b.out 1).trans rfl; have af1 := blk_frozen K14b.out 1; have ac2 : wb.cell? ⟨g14, 2, none⟩ = some (.int .i64 q.f2) := (blk_cell K14b.out 2).trans rfl; have af2 := blk_frozen K14b.out 2))
    exact HHK.out _ _ _ _ _ _ _ _ _ _ _ _ _ _ _ _ _ _ _ _ _ _ _ _ _ _ _ _ _ _ _ _ _ _ _ _ _ _ _ _ _ _ _ _ _ _ _ _ _ _ _ _ _ _ _ _ _ _ _ _ _ _ _ _ _ _ _ _ _ _ _ _ _ _ _ _ _ _ _ _ _ _ _ _ _ _ _ _ _ _ _ _ _ _ _ _ _ _ _ _ _ _ _ _ _ _ _ _ _ _ _ _ _ _ _ _ _ _ _ _ _ _ _ _ _ _ _ _ _ _ _ _ _ _ _ _ _ _ _ _ _ _ _ _ _ _ _ _ _ _ _ _ _ _ _ _ _ _ _ _ _ _ _ _ _ _ _ _ _ _ _ _ _ _ _ _ _ _ _ _ _ _ _ _ _ _ _ _ _ _ wb l (HB.out.more (Nat.le_succ _)) ⟨_, _, _, _, _, HN.out, K5b.out, K7b.out, R5b.out, R7b.out, BB.out⟩
  have y1 : decide (q.f0 < 0) = false := decide_eq_false hneg
  obtain ⟨k, hk, hk1, hk2, hk3⟩ := rem_ q.f0 n (by omega) (by omega)
  have HKN := Aside0.mk hk
  clear hn0 hneg hk
  conv => arg 2; whnf
  go_upto_region 19 with (first | ((with_reducible refine gate_dst (N := 14) rfl ?_); refine box_event ?hg (N := 14) ?hd (cs := #[.int .i64 0, .int .i64 0, .int .i64 0]) (t := 38) ?hr ?_; (case hd => rfl); (case hg => rfl); (case hr => first | (go_simp; done) | (go_simp; rfl)); intro g14 hg wbm hbox hb; have Bm := Aside0.mk hb; have K14m := Aside0.mk hbox; have G14 := Aside0.mk (show wa.heap.size ≤ g14 from by rw [hg]; exact Nat.le_refl _); clear hb hg hbox) | ((with_reducible refine gate_store (t := 38) (p := 14) (v := .tmp 96) rfl ?_); refine ev_store (old := #[.int .i64 0, .int .i64 0, .int .i64 0]) (new := #[.int .i64 q.f0, .int .i64 q.f1, .int .i64 q.f2]) (.tmp 14) (.tmp 96) rfl rfl rfl rfl rfl K14m.out (by kernel_rfl) rfl ?h1_ ?_; (case h1_ => intro q hq; simp at hq; rcases hq with rfl | rfl | rfl <;> rfl); intro wb hK_ hP_; have Bb := Aside0.mk (hP_.below G14.out Bm.out); have K14b := Aside0.mk hK_; have BB := Aside0.mk (below_step BA.out Bb.out); have Bb_ := Aside0.mk Bb.out.size; have K5b := Aside0.mk (blk_below K5.out Bb.out); have K7b := Aside0.mk (blk_below K7.out Bb.out); have R5b := Aside0.mk (Kd.R_below R5.out Bb.out); have R7b := Aside0.mk (Kd.R_below R7.out Bb.out); clear hK_ hP_ Bm K14m e0 e1 e2; have b5c0 : wb.cell? ⟨g5, 0, none⟩ = some (.int .i64 0) := (blk_cell K5b.out 0).trans rfl; have b5f0 := blk_frozen K5b.out 0; have b5c1 : wb.cell? ⟨g5, 1, none⟩ = some (.slice A5 n c5) := (blk_cell K5b.out 1).trans rfl; have b5f1 := blk_frozen K5b.out 1; have b5c2 : wb.cell? ⟨g5, 2, none⟩ = some (.slice P5 0 q5) := (blk_cell K5b.out 2).trans rfl; have b5f2 := blk_frozen K5b.out 2; have ac0 : wb.cell? ⟨g14, 0, none⟩ = some (.int .i64 q.f0) := (blk_cell K14b.out 0).trans rfl; have af0 := blk_frozen K14b.out 0; have ac1 : wb.cell? ⟨g14, 1, none⟩ = some (.int .i64 q.f1) := (blk_cell K14b.out 1).trans rfl; have af1 := blk_frozen K14b.out 1; have ac2 : wb.cell? ⟨g14, 2, none⟩ = some (.int .i64 q.f2) := (blk_cell K14b.out 2).trans rfl; have af2 := blk_frozen K14b.out 2))
  obtain ⟨ad5, ea, e0, e1, e2, e3, e4, e5, e6, e7⟩ := itC (R_C R5b.out) (i := k) (by have := HKN.out; have := HN.out; omega)
  subst ea
  obtain ⟨x, hx⟩ : ∃ x, x = l.getD k z33 := ⟨_, rfl⟩
  rw [← hx] at e0 e1 e2 e3 e4 e5 e6 e7
  have HXM := Aside0.mk (show x ∈ l by rw [hx]; exact getD_memI (by have := HKN.out; have := HN.out; omega))
  have ix1 : (0 : Int) ≤ (k : Int) := by omega
  have ix2 : (k : Int) < (n : Int) := by have := HKN.out; omega
  have ix3 := eq_true ix1; have ix4 := eq_true ix2
  have ix5 : decide ((k : Int) < (n : Int)) = true := decide_eq_true ix2
  have ix7 : (k < n) = True := eq_true HKN.out
  clear hx
  refine start_ (n := 12) (S := fun w' => w'.cell? ⟨g5, 1, none⟩ = some (.slice (some ad5) n c5) ∧ w'.cell? ⟨g14, 0, none⟩ = some (.int .i64 q.f0) ∧ w'.cell? (ad5.add (k * 8)) = some (.int .i64 x.f0.f0) ∧ w'.cell? ⟨(ad5.add (k * 8)).block, (ad5.add (k * 8)).off + 1, none⟩ = some (.int .i64 x.f0.f1) ∧ w'.cell? ⟨(ad5.add (k * 8)).block, (ad5.add (k * 8)).off + 2, none⟩ = some (.int .i64 x.f1) ∧ w'.cell? ⟨(ad5.add (k * 8)).block, (ad5.add (k * 8)).off + 3, none⟩ = some (.int .i64 x.f2) ∧ w'.cell? ⟨(ad5.add (k * 8)).block, (ad5.add (k * 8)).off + 4, none⟩ = some (.int .i64 x.f3) ∧ w'.cell? ⟨(ad5.add (k * 8)).block, (ad5.add (k * 8)).off + 5, none⟩ = some (.int .i64 x.f4) ∧ w'.cell? ⟨(ad5.add (k * 8)).block, (ad5.add (k * 8)).off + 6, none⟩ = some (.int .i64 x.f5) ∧ w'.cell? ⟨(ad5.add (k * 8)).block, (ad5.add (k * 8)).off + 7, none⟩ = some (.int .i64 x.f6)) (ds := [11]) #[false, false, false, false, false, false, false, false, false, false, false, false] (by kernel_rfl) rfl rfl ⟨b5c1, ac0, e0, e1, e2, e3, e4, e5, e6, e7⟩ (fun hHeld => ?_)
  refine pure_ (i := 0) (N := some 106) (v := ?_) (a' := ?_) #[true, false, false, false, false, false, false, false, false, false, false, false] rfl rfl (by kernel_rfl) (fun _ _ _ h => h) (Or.inl ⟨by rfl, ?_⟩) ?_ ?_
  rotate_left
  · intro w'
    go_simp
    with_reducible rfl
  rotate_left
  · simp only [Act.put, List.setIfInBounds_toArray, List.set_cons_zero, List.set_cons_succ, i64_w, i32_w]
    rfl
  refine pure_ (i := 2) (N := some 108) (v := ?_) (a' := ?_) #[true, false, true, false, false, false, false, false, false, false, false, false] rfl rfl (by kernel_rfl) (fun _ _ _ h => h) (Or.inl ⟨by rfl, ?_⟩) ?_ ?_
  rotate_left
  · intro w'
    go_simp
    with_reducible rfl
  rotate_left
  · simp only [Act.put, List.setIfInBounds_toArray, List.set_cons_zero, List.set_cons_succ, i64_w, i32_w]
    rfl
  refine pure_ (i := 4) (N := some 110) (v := ?_) (a' := ?_) #[true, false, true, false, true, false, false, false, false, false, false, false] rfl rfl (by kernel_rfl) (fun _ _ _ h => h) (Or.inl ⟨by rfl, ?_⟩) ?_ ?_
  rotate_left
  · intro w'
    go_simp
    with_reducible rfl
  rotate_left
  · simp only [Act.put, List.setIfInBounds_toArray, List.set_cons_zero, List.set_cons_succ, i64_w, i32_w]
    rfl
  refine take_ (i := 1) (N := some 107) (v := ?_) (a' := ?_) #[true, true, true, false, true, false, false, false, false, false, false, false] rfl rfl (by kernel_rfl) (fun _ _ _ h => h) (Or.inl ⟨by rfl, ?_⟩) hHeld ?_ ?_
  rotate_left
  · rintro w' ⟨s0, s1, s2, s3, s4, s5, s6, s7, s8, s9⟩
    go_simp
    with_reducible rfl
  rotate_left
  · simp only [Act.put, List.setIfInBounds_toArray, List.set_cons_zero, List.set_cons_succ, i64_w, i32_w]
    rfl
  refine take_ (i := 3) (N := some 109) (v := ?_) (a' := ?_) #[true, true, true, true, true, false, false, false, false, false, false, false] rfl rfl (by kernel_rfl) (fun _ _ _ h => h) (Or.inl ⟨by rfl, ?_⟩) hHeld ?_ ?_
  rotate_left
  · rintro w' ⟨s0, s1, s2, s3, s4, s5, s6, s7, s8, s9⟩
    go_simp
    with_reducible rfl
  rotate_left
  · simp only [Act.put, List.setIfInBounds_toArray, List.set_cons_zero, List.set_cons_succ, i64_w, i32_w]
    rfl
  refine take_ (i := 5) (N := some 111) (v := ?_) (a' := ?_) #[true, true, true, true, true, true, false, false, false, false, false, false] rfl rfl (by kernel_rfl) (fun _ _ _ h => h) (Or.inl ⟨by rfl, ?_⟩) hHeld ?_ ?_
  rotate_left
  · rintro w' ⟨s0, s1, s2, s3, s4, s5, s6, s7, s8, s9⟩
    go_simp
    with_reducible rfl
  rotate_left
  · simp only [Act.put, List.setIfInBounds_toArray, List.set_cons_zero, List.set_cons_succ, i64_w, i32_w]
    rfl
  refine pure_ (i := 6) (N := some 112) (v := ?_) (a' := ?_) #[true, true, true, true, true, true, true, false, false, false, false, false] rfl rfl (by kernel_rfl) (fun _ _ _ h => h) (Or.inl ⟨by rfl, ?_⟩) ?_ ?_
  rotate_left
  · intro w'
    go_simp
    with_reducible rfl
  rotate_left
  · simp only [Act.put, List.setIfInBounds_toArray, List.set_cons_zero, List.set_cons_succ, i64_w, i32_w]
    rfl
  refine pure_ (i := 7) (N := some 113) (v := ?_) (a' := ?_) #[true, true, true, true, true, true, true, true, false, false, false, false] rfl rfl (by kernel_rfl) (fun _ _ _ h => h) (Or.inl ⟨by rfl, ?_⟩) ?_ ?_
  rotate_left
  · intro w'
    go_simp
    with_reducible rfl
  rotate_left
  · simp only [Act.put, List.setIfInBounds_toArray, List.set_cons_zero, List.set_cons_succ, i64_w, i32_w]
    rfl
  refine pure_ (i := 8) (N := some 114) (v := ?_) (a' := ?_) #[true, true, true, true, true, true, true, true, true, false, false, false] rfl rfl (by kernel_rfl) (fun _ _ _ h => h) (Or.inl ⟨by rfl, ?_⟩) ?_ ?_
  rotate_left
  · intro w'
    go_simp
    with_reducible rfl
  rotate_left
  · simp only [Act.put, List.setIfInBounds_toArray, List.set_cons_zero, List.set_cons_succ, i64_w, i32_w]
    rfl
  refine take_ (i := 9) (N := some 115) (v := ?_) (a' := ?_) #[true, true, true, true, true, true, true, true, true, true, false, false] rfl rfl (by kernel_rfl) (fun _ _ _ h => h) (Or.inl ⟨by rfl, ?_⟩) hHeld ?_ ?_
  rotate_left
  · rintro w' ⟨s0, s1, s2, s3, s4, s5, s6, s7, s8, s9⟩
    go_simp
    with_reducible rfl
  rotate_left
  · simp only [Act.put, List.setIfInBounds_toArray, List.set_cons_zero, List.set_cons_succ, i64_w, i32_w]
    rfl
  refine one_ (i := 10) (N := some 15) #[true, true, true, true, true, true, true, true, true, true, true, false] rfl rfl (by kernel_rfl) (by decide) (fun K hK => ?_)
  refine box_step (by rfl) (N := 15) ?hd (cs := #[.int .i64 0, .int .i64 0, .int .i64 0, .int .i64 0, .int .i64 0, .int .i64 0, .int .i64 0, .int .i64 0]) (t := 33) ?hr ?_
  (case hd => rfl)
  (case hr => first | (go_simp; done) | (go_simp; rfl))
  intro g15 hg wcm hbox hb
  have BCm := Aside0.mk (below_step (below_drew (Below.refl wb.heap.size wb)) hb)
  have G15 := Aside0.mk (show wb.heap.size ≤ g15 from by rw [hg]; exact Nat.le_refl _)
  have K15m := Aside0.mk hbox
  clear hg hbox
  have zc0 : wcm.cell? ⟨g15, 0, none⟩ = some (.int .i64 0) := (blk_cell K15m.out 0).trans rfl
  have zf0 := blk_frozen K15m.out 0
  have zc1 : wcm.cell? ⟨g15, 1, none⟩ = some (.int .i64 0) := (blk_cell K15m.out 1).trans rfl
  have zf1 := blk_frozen K15m.out 1
  have zc2 : wcm.cell? ⟨g15, 2, none⟩ = some (.int .i64 0) := (blk_cell K15m.out 2).trans rfl
  have zf2 := blk_frozen K15m.out 2
  have zc3 : wcm.cell? ⟨g15, 3, none⟩ = some (.int .i64 0) := (blk_cell K15m.out 3).trans rfl
  have zf3 := blk_frozen K15m.out 3
  have zc4 : wcm.cell? ⟨g15, 4, none⟩ = some (.int .i64 0) := (blk_cell K15m.out 4).trans rfl
  have zf4 := blk_frozen K15m.out 4
  have zc5 : wcm.cell? ⟨g15, 5, none⟩ = some (.int .i64 0) := (blk_cell K15m.out 5).trans rfl
  have zf5 := blk_frozen K15m.out 5
  have zc6 : wcm.cell? ⟨g15, 6, none⟩ = some (.int .i64 0) := (blk_cell K15m.out 6).trans rfl
  have zf6 := blk_frozen K15m.out 6
  have zc7 : wcm.cell? ⟨g15, 7, none⟩ = some (.int .i64 0) := (blk_cell K15m.out 7).trans rfl
  have zf7 := blk_frozen K15m.out 7
  refine hK.out _ _ ⟨pw_cell_below hb b5c1, pw_cell_below hb ac0, pw_cell_below hb e0, pw_cell_below hb e1, pw_cell_below hb e2, pw_cell_below hb e3, pw_cell_below hb e4, pw_cell_below hb e5, pw_cell_below hb e6, pw_cell_below hb e7⟩ (fun hHeld => ?_)
  clear hK K
  refine norm_ (a' := ?_) ?_ ?_
  rotate_left
  · show Act.put _ (some 15) _ = _
    simp only [Act.put, List.setIfInBounds_toArray, List.set_cons_zero, List.set_cons_succ, i64_w, i32_w]
    rfl
  refine last_ (i := 11) (N := none) #[true, true, true, true, true, true, true, true, true, true, true, true] rfl rfl (by kernel_rfl) (by decide) (fun K hK => ?_)
  refine skip_ (w1 := ?_) (by rfl) rfl ?_ ?_
  rotate_left
  · go_simp
    rfl
  refine hK.out _ _ ?_
  clear hK K
  refine done_ (by kernel_rfl) ?_
  have Bc := Aside0.mk (below_setB (below_setB (below_setB (below_setB (below_setB (below_setB (below_setB (below_setB BCm.out (p := ⟨g15, 0, none⟩) G15.out (.int .i64 x.f0.f0)) (p := ⟨g15, 1, none⟩) G15.out (.int .i64 x.f0.f1)) (p := ⟨g15, 2, none⟩) G15.out (.int .i64 x.f1)) (p := ⟨g15, 3, none⟩) G15.out (.int .i64 x.f2)) (p := ⟨g15, 4, none⟩) G15.out (.int .i64 x.f3)) (p := ⟨g15, 5, none⟩) G15.out (.int .i64 x.f4)) (p := ⟨g15, 6, none⟩) G15.out (.int .i64 x.f5)) (p := ⟨g15, 7, none⟩) G15.out (.int .i64 x.f6))
  have K15c := Aside0.mk (blk_put (blk_put (blk_put (blk_put (blk_put (blk_put (blk_put (blk_put K15m.out 0 (.int .i64 x.f0.f0) (cs' := #[.int .i64 x.f0.f0, .int .i64 0, .int .i64 0, .int .i64 0, .int .i64 0, .int .i64 0, .int .i64 0, .int .i64 0]) rfl) 1 (.int .i64 x.f0.f1) (cs' := #[.int .i64 x.f0.f0, .int .i64 x.f0.f1, .int .i64 0, .int .i64 0, .int .i64 0, .int .i64 0, .int .i64 0, .int .i64 0]) rfl) 2 (.int .i64 x.f1) (cs' := #[.int .i64 x.f0.f0, .int .i64 x.f0.f1, .int .i64 x.f1, .int .i64 0, .int .i64 0, .int .i64 0, .int .i64 0, .int .i64 0]) rfl) 3 (.int .i64 x.f2) (cs' := #[.int .i64 x.f0.f0, .int .i64 x.f0.f1, .int .i64 x.f1, .int .i64 x.f2, .int .i64 0, .int .i64 0, .int .i64 0, .int .i64 0]) rfl) 4 (.int .i64 x.f3) (cs' := #[.int .i64 x.f0.f0, .int .i64 x.f0.f1, .int .i64 x.f1, .int .i64 x.f2, .int .i64 x.f3, .int .i64 0, .int .i64 0, .int .i64 0]) rfl) 5 (.int .i64 x.f4) (cs' := #[.int .i64 x.f0.f0, .int .i64 x.f0.f1, .int .i64 x.f1, .int .i64 x.f2, .int .i64 x.f3, .int .i64 x.f4, .int .i64 0, .int .i64 0]) rfl) 6 (.int .i64 x.f5) (cs' := #[.int .i64 x.f0.f0, .int .i64 x.f0.f1, .int .i64 x.f1, .int .i64 x.f2, .int .i64 x.f3, .int .i64 x.f4, .int .i64 x.f5, .int .i64 0]) rfl) 7 (.int .i64 x.f6) (cs' := #[.int .i64 x.f0.f0, .int .i64 x.f0.f1, .int .i64 x.f1, .int .i64 x.f2, .int .i64 x.f3, .int .i64 x.f4, .int .i64 x.f5, .int .i64 x.f6]) rfl)
  clear hb BCm K15m zc0 zf0 zc1 zf1 zc2 zf2 zc3 zf3 zc4 zf4 zc5 zf5 zc6 zf6 zc7 zf7 ac0 af0 ac1 af1 ac2 af2 e0 e1 e2 e3 e4 e5 e6 e7 b5c0 b5f0 b5c1 b5f1 b5c2 b5f2
  generalize ((((((((wcm.setCell ⟨g15, 0, none⟩ (.int .i64 x.f0.f0)).setCell ⟨g15, 1, none⟩ (.int .i64 x.f0.f1)).setCell ⟨g15, 2, none⟩ (.int .i64 x.f1)).setCell ⟨g15, 3, none⟩ (.int .i64 x.f2)).setCell ⟨g15, 4, none⟩ (.int .i64 x.f3)).setCell ⟨g15, 5, none⟩ (.int .i64 x.f4)).setCell ⟨g15, 6, none⟩ (.int .i64 x.f5)).setCell ⟨g15, 7, none⟩ (.int .i64 x.f6)) = wc at Bc K15c ⊢
  have BC := Aside0.mk (below_step BB.out Bc.out); have Bc_ := Aside0.mk Bc.out.size
  have K14c := Aside0.mk (blk_below K14b.out Bc.out)
  have K5c := Aside0.mk (blk_below K5b.out Bc.out)
  have K7c := Aside0.mk (blk_below K7b.out Bc.out)
  have R5c := Aside0.mk (Kd.R_below R5b.out Bc.out)
  have R7c := Aside0.mk (Kd.R_below R7b.out Bc.out)
  have HX := Aside0.mk (HB.out.fit x HXM.out); have HXP := Aside0.mk (HB.out.two x HXM.out)
  clear hk1 hk2 hk3 ix1 ix2 ix3 ix4 ix5 ix7 K5b K7b R5b R7b K14b BB
  go_upto_block 4 with (first | ((with_reducible refine gate_ (.load 33 (.tmp 15)) rfl ?_); (try (refine gate_guard (by rfl) ?_; dsimp only)); refine ev_load (cs := #[.int .i64 x.f0.f0, .int .i64 x.f0.f1, .int .i64 x.f1, .int .i64 x.f2, .int .i64 x.f3, .int .i64 x.f4, .int .i64 x.f5, .int .i64 x.f6]) (.tmp 15) rfl rfl rfl Try.underlying33 K15c.out (by kernel_rfl) ?_) | ((with_reducible refine gate_dst (N := 16) rfl ?_); refine box_event ?hg (N := 16) ?hd (cs := #[.int .i64 0, .int .i64 0, .int .i64 0, .int .i64 0, .int .i64 0, .int .i64 0, .int .i64 0, .int .i64 0]) (t := 33) ?hr ?_; (case hd => rfl); (case hg => rfl); (case hr => first | (go_simp; done) | (go_simp; rfl)); intro g16 hg wdm hbox hb; have Bdm := Aside0.mk hb; have K16m := Aside0.mk hbox; have G16 := Aside0.mk (show wc.heap.size ≤ g16 from by rw [hg]; exact Nat.le_refl _); clear hb hg hbox) | ((with_reducible refine gate_store (t := 33) (p := 16) (v := .tmp 116) rfl ?_); refine ev_store (old := #[.int .i64 0, .int .i64 0, .int .i64 0, .int .i64 0, .int .i64 0, .int .i64 0, .int .i64 0, .int .i64 0]) (new := #[.int .i64 x.f0.f0, .int .i64 x.f0.f1, .int .i64 x.f1, .int .i64 x.f2, .int .i64 x.f3, .int .i64 x.f4, .int .i64 x.f5, .int .i64 x.f6]) (.tmp 16) (.tmp 116) rfl rfl rfl rfl rfl K16m.out (by kernel_rfl) rfl ?h1_ ?_; (case h1_ => intro q hq; simp at hq; rcases hq with rfl | rfl | rfl | rfl | rfl | rfl | rfl | rfl <;> rfl); intro wd hK_ hP_; have Bd := Aside0.mk (hP_.below G16.out Bdm.out); have K16d := Aside0.mk hK_; have BD := Aside0.mk (below_step BC.out Bd.out); have K14d := Aside0.mk (blk_below K14c.out Bd.out); have K15d := Aside0.mk (blk_below K15c.out Bd.out); have K5d := Aside0.mk (blk_below K5c.out Bd.out); have K7d := Aside0.mk (blk_below K7c.out Bd.out); have R5d := Aside0.mk (Kd.R_below (Kd.R_elderB R5c.out g16 G16.out) Bd.out); have R7d := Aside0.mk (Kd.R_below (Kd.R_elderB R7c.out g16 G16.out) Bd.out); clear hK_ hP_ Bdm K16m; have ac0 : wd.cell? ⟨g14, 0, none⟩ = some (.int .i64 q.f0) := (blk_cell K14d.out 0).trans rfl; have af0 := blk_frozen K14d.out 0; have ac1 : wd.cell? ⟨g14, 1, none⟩ = some (.int .i64 q.f1) := (blk_cell K14d.out 1).trans rfl; have af1 := blk_frozen K14d.out 1; have ac2 : wd.cell? ⟨g14, 2, none⟩ = some (.int .i64 q.f2) := (blk_cell K14d.out 2).trans rfl; have af2 := blk_frozen K14d.out 2))
  refine life_acts (g14 := g14) (q0 := q.f0) (q1 := q.f1) (q2 := q.f2) HX.out K14d.out K15d.out K16d.out ?_
  intro u119 u120 u121 u122 u123 u124 u125 u126 u127 u128 u129 u130 u131 u132 u133 u134 u135 u136 u137 u138 u139 u140 u141 u142 u143 u144 u145 u146 u147 u148 u149 u150 u151 u152 u153 u154 u155 u156 u157 u158 u159 u160 u161 u162 u163 u164 u165 u166 u167 u168 u169 u170 u171 y e we hA hN hO
  dsimp only
  have HA := Aside0.mk hA; have K16 := Aside0.mk hN
  have K15 := Aside0.mk (hO.blk K15d.out (Nat.ne_of_lt (Nat.lt_of_lt_of_le (blk_lt K15c.out) G16.out)))
  have K5e := Aside0.mk (hO.blk K5d.out (Nat.ne_of_lt (Nat.lt_of_lt_of_le (blk_lt K5c.out) G16.out)))
  have K7e := Aside0.mk (hO.blk K7d.out (Nat.ne_of_lt (Nat.lt_of_lt_of_le (blk_lt K7c.out) G16.out)))
  have R5e := Aside0.mk (Kd.R_mono (Kd.R_kept R5d.out hO.kept (fun k hk e => hk.2 e)) (fun _ h => h.1))
  have R7e := Aside0.mk (Kd.R_mono (Kd.R_kept R7d.out hO.kept (fun k hk e => hk.2 e)) (fun _ h => h.1))
  have BE := Aside0.mk (hO.below (Nat.le_trans BC.out.size G16.out) BD.out.size BD.out)
  have HF := Aside0.mk hA.fit
  have HP := Aside0.mk (show y.f0.f0 + y.f1 = 1 by rw [hA.id, hA.buyer]; exact HXP.out)
  clear hA hN hO K14d K15d K16d K5d K7d R5d R7d BD K14c K15c K5c K7c R5c R7c BC ac0 af0 ac1 af1 ac2 af2
  go_upto_region 36 with fail
  refine life_over HA.out K15.out K16.out ?_
  intro u172 u173 u174 u175 u176 u177 u178 u179 u180 u181 u182 u183 u184 u185 wf hb
  dsimp only
  have BF := Aside0.mk (below_step BE.out hb); have K16f := Aside0.mk (blk_below K16.out hb)
  have G5L := Aside0.mk (show g5 < g16 from Nat.lt_of_lt_of_le (blk_lt K5.out) (Nat.le_trans Bb_.out (Nat.le_trans Bc_.out G16.out)))
  have K5f := Aside0.mk (blk_below K5e.out hb)
  have K7f := Aside0.mk (blk_below K7e.out hb)
  have R5f := Aside0.mk (Kd.R_below R5e.out hb)
  have R7f := Aside0.mk (Kd.R_below R7e.out hb)
  clear hb HA K15 K16 BE K5e K7e R5e R7e
  go_wp2_with (first | ((with_reducible refine gate_ (.load 26 (.tmp 5)) rfl ?_); (try (refine gate_guard (by rfl) ?_; dsimp only)); refine ev_load (cs := #[.int .i64 0, .slice (some ad5) n c5, .slice P5 0 q5]) (.tmp 5) rfl rfl rfl Try.underlying26 K5f.out (by kernel_rfl) ?_) | ((with_reducible refine gate_ (.load 33 (.tmp 16)) rfl ?_); (try (refine gate_guard (by rfl) ?_; dsimp only)); refine ev_load (cs := #[.int .i64 y.f0.f0, .int .i64 y.f0.f1, .int .i64 y.f1, .int .i64 y.f2, .int .i64 y.f3, .int .i64 y.f4, .int .i64 y.f5, .int .i64 y.f6]) (.tmp 16) rfl rfl rfl Try.underlying33 K16f.out (by kernel_rfl) ?_) | (go_at_call 7; (with_reducible refine (put_calls (me := 0) (w := wf) HN.out (R_C R5f.out) HB.out.sort (by have := HB.out.len; have := HN.out; have := HM.out; omega) (fit_ok HF.out) (party HF.out HP.out).1).mono ?_); rintro r wg ⟨A5n, n5, c5n, rfl, hn, hO, hb⟩; have BG := Aside0.mk (below_step BF.out hb); have K5g := Aside0.mk (blk_below K5f.out hb); have K7g := Aside0.mk (blk_below K7f.out hb); have R7g := Aside0.mk (Kd.R_below R7f.out hb); have K16g := Aside0.mk (blk_below K16f.out hb); have N5 := Aside0.mk hn; have R5n := Aside0.mk (Kd.R_lower (Kd.R_mono (ok' := fun k => k ≠ g5 ∧ k ≠ g7) (Kd.R_bound hO) (fun k hk => ⟨Nat.ne_of_gt (Nat.lt_of_lt_of_le (blk_lt K5f.out) hk.2.1), Nat.ne_of_gt (Nat.lt_of_lt_of_le (blk_lt K7f.out) hk.2.1)⟩)) BF.out.size); clear hb hn hO) | ((with_reducible refine gate_store (t := 26) (p := 5) (v := .tmp 191) rfl ?_); refine ev_store (old := #[.int .i64 0, .slice (some ad5) n c5, .slice P5 0 q5]) (new := #[.int .i64 0, .slice A5n n5 c5n, .slice P5 0 q5]) (.tmp 5) (.tmp 191) rfl rfl rfl rfl rfl K5g.out (by kernel_rfl) rfl ?h1_ ?_; (case h1_ => intro q hq; simp at hq; rcases hq with rfl | rfl | rfl <;> rfl); intro wh hK_ hP_; have BH := Aside0.mk (hP_.below G5.out BG.out); have K5h := Aside0.mk hK_; have K7h := Aside0.mk (hP_.blk K7g.out (Nat.ne_of_gt G7.out)); have K16h := Aside0.mk (hP_.blk K16g.out (Nat.ne_of_gt G5L.out)); have R5h := Aside0.mk (Kd.R_kept R5n.out hP_.kept (fun k hk e => hk.1 e)); have R7h := Aside0.mk (Kd.R_kept R7g.out hP_.kept (fun k hk e => hk.1 e)); clear hK_ hP_) | ((with_reducible refine gate_ (.load 26 (.tmp 7)) rfl ?_); (try (refine gate_guard (by rfl) ?_; dsimp only)); refine ev_load (cs := #[.int .i64 1, .slice A7 n c7, .slice P7 0 q7]) (.tmp 7) rfl rfl rfl Try.underlying26 K7h.out (by kernel_rfl) ?_) | ((with_reducible refine gate_ (.load 33 (.tmp 16)) rfl ?_); (try (refine gate_guard (by rfl) ?_; dsimp only)); refine ev_load (cs := #[.int .i64 y.f0.f0, .int .i64 y.f0.f1, .int .i64 y.f1, .int .i64 y.f2, .int .i64 y.f3, .int .i64 y.f4, .int .i64 y.f5, .int .i64 y.f6]) (.tmp 16) rfl rfl rfl Try.underlying33 K16h.out (by kernel_rfl) ?_) | (go_at_call 7; (with_reducible refine (put_calls (me := 1) (w := wh) HN.out (R_C R7h.out) HB.out.sort (by have := HB.out.len; have := HN.out; have := HM.out; omega) (fit_ok HF.out) (party HF.out HP.out).2).mono ?_); rintro r wi ⟨A7n, n7, c7n, rfl, hn, hO, hb⟩; have BI := Aside0.mk (below_step BH.out hb); have K5i := Aside0.mk (blk_below K5h.out hb); have K7i := Aside0.mk (blk_below K7h.out hb); have R5i := Aside0.mk (Kd.R_below R5h.out hb); have N7 := Aside0.mk hn; have R7n := Aside0.mk (Kd.R_lower (Kd.R_mono (ok' := fun k => k ≠ g5 ∧ k ≠ g7) (Kd.R_bound hO) (fun k hk => ⟨Nat.ne_of_gt (Nat.lt_of_lt_of_le (blk_lt K5h.out) hk.2.1), Nat.ne_of_gt (Nat.lt_of_lt_of_le (blk_lt K7h.out) hk.2.1)⟩)) BH.out.size); clear hb hn hO) | ((with_reducible refine gate_store (t := 26) (p := 7) (v := .tmp 197) rfl ?_); refine ev_store (old := #[.int .i64 1, .slice A7 n c7, .slice P7 0 q7]) (new := #[.int .i64 1, .slice A7n n7 c7n, .slice P7 0 q7]) (.tmp 7) (.tmp 197) rfl rfl rfl rfl rfl K7i.out (by kernel_rfl) rfl ?h1_ ?_; (case h1_ => intro q hq; simp at hq; rcases hq with rfl | rfl | rfl <;> rfl); intro wj hK_ hP_; have BJ := Aside0.mk (hP_.below (Nat.le_trans G5.out (Nat.le_of_lt G7.out)) BI.out); have K7j := Aside0.mk hK_; have K5j := Aside0.mk (hP_.blk K5i.out (Nat.ne_of_lt G7.out)); have R5j := Aside0.mk (Kd.R_kept R5i.out hP_.kept (fun k hk e => hk.2 e)); have R7j := Aside0.mk (Kd.R_kept R7n.out hP_.kept (fun k hk e => hk.2 e)); clear hK_ hP_))
  have hnn : n7 = n5 := N7.out.trans N5.out.symm
  subst hnn
  have HB2 := Aside0.mk (HB.out.put HF.out HP.out)
  obtain ⟨l2, hl2⟩ : ∃ l2, l2 = putI l y := ⟨_, rfl⟩
  rw [← hl2] at HB2 N7 R5j R7j
  clear hl2 N5
  go_loopg [205] 3 (fun kq v205 w' => ∃ j : Nat, v205 = .int .i64 (j : Int) ∧ Aside0 (j ≤ 2 ∧ j + kq = 3) ∧ Aside0 (Below wj.heap.size wj w'))
  case atStart => exact ⟨0, rfl, ⟨by omega, by omega⟩, ⟨Below.refl _ _⟩⟩
  case round =>
    obtain ⟨j, rfl, HJ, BL⟩ := hrel
    generalize wr = wk at BL ⊢
    by_cases hj : j < 2
    rotate_left
    · have j1 : decide ((j : Int) < 2) = false := decide_eq_false (by omega)
      have j2 : decide (j < 2) = false := decide_eq_false hj
      have j3 : (j < 2) = False := eq_false hj
      clear hj
      go_wp2_with fail
      exact HHK.out _ _ _ _ _ _ _ _ _ _ _ _ _ _ _ _ _ _ _ _ _ _ _ _ _ _ _ _ _ _ _ _ _ _ _ _ _ _ _ _ _ _ _ _ _ _ _ _ _ _ _ _ _ _ _ _ _ _ _ _ _ _ _ _ _ _ _ _ _ _ _ _ _ _ _ _ _ _ _ _ _ _ _ _ _ _ _ _ _ _ _ _ _ _ _ _ _ _ _ _ _ _ _ _ _ _ _ _ _ _ _ _ _ _ _ _ _ _ _ _ _ _ _ _ _ _ _ _ _ _ _ _ _ _ _ _ _ _ _ _ _ _ _ _ _ _ _ _ _ _ _ _ _ _ _ _ _ _ _ _ _ _ _ _ _ _ _ _ _ _ _ _ _ _ _ _ _ _ _ _ _ _ _ _ _ _ _ _ _ _ wk l2 HB2.out ⟨_, _, _, _, _, N7.out, blk_below K5j.out BL.out, blk_below K7j.out BL.out, Kd.R_below R5j.out BL.out, Kd.R_below R7j.out BL.out, below_step BJ.out BL.out⟩
    refine life_in hj HB2.out (by have := HM.out; omega) (P5 := P5) (P7 := P7) (q5 := q5) (q7 := q7) (n := n7) ⟨⟨_, _, blk_below K5j.out BL.out, Kd.C_below (R_C R5j.out) BL.out, (Kd.R_reads' R5j.out).2.1⟩, N7.out⟩ ⟨⟨_, _, blk_below K7j.out BL.out, Kd.C_below (R_C R7j.out) BL.out, (Kd.R_reads' R7j.out).2.1⟩, N7.out⟩ ?_
    intro u18 u19 u20 u21 u22 u23 u24 u25 u26 u27 u206 u207 u208 u209 u210 u211 u212 u213 u214 u215 u216 u217 u218 u219 u220 u221 u222 u223 u224 u225 u226 u227 u228 u229 u230 u231 u232 u233 u234 u235 u236 u237 u238 u239 u240 u241 u242 u243 u244 u245 u246 u247 u248 u249 u250 u251 u252 u253 u254 u255 u256 u257 u258 u259 u260 u261 u262 u263 u264 u265 u266 wl hb
    dsimp only
    have jn : wrap64 ((j : Int) + 1) = ((j + 1 : Nat) : Int) := by unfold wrap64; omega
    have BL2 := Aside0.mk (below_step BL.out hb)
    have HJ2 := Aside0.mk (show j + 1 ≤ 2 ∧ j + 1 + (gk - 1) = 3 ∧ 0 < gk by have := HJ.out; omega)
    clear hb hj
    go_wp2_with fail
    go_roundg (gk - 1)
    case measure => have := HJ2.out.2.2; omega
    case rel => exact ⟨j + 1, by rw [jn], ⟨HJ2.out.1, HJ2.out.2.1⟩, BL2⟩
end Go.Proofs.Ytianljjmnpdkcaa.Pure
