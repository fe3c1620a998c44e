/-
  WholeLife: what is looked at behind an act; the round over the currencies.
-/
import Derived.Test.YtianljjmnpdkcaaHLife1
namespace Go.Proofs.Ytianljjmnpdkcaa.Pure
open Go.RowKit Go.Proofs.Ytianljjmnpdkcaa.M Go.Proofs.YtianljjmnpdkcaaW.PrintWords Go.Proofs.YtianljjmnpdkcaaW.PrintLast Go.Proofs.YtianljjmnpdkcaaW.PrintMore
set_option linter.unusedVariables false
set_option linter.unusedSimpArgs false
attribute [local go_sem high] neqI
noncomputable def ov36 : Code := ((Try.f3.body.bind (findC (isReg 36))).getD .skip)
noncomputable def body5 : Code := loopBody (Try.f3.body.bind (findC (isBlock 5)))
theorem eq8_self (x : S33) : eq8 x.f0.f0 x.f0.f1 x.f1 x.f2 x.f3 x.f4 x.f5 x.f6 x.f0.f0 x.f0.f1 x.f1 x.f2 x.f3 x.f4 x.f5 x.f6 = true := eqI_iff.2 rfl
set_option maxHeartbeats 8000000 in
set_option maxRecDepth 1000000 in
theorem life_over {w : World} {x y : S33} {e : Int} {g15 g16 : Nat} {c0 c1 c2 c3 c4 c5 c6 c7 c8 c9 c10 c11 c12 c13 c14 c18 c19 c20 c21 c22 c23 c24 c25 c26 c27 c28 c29 c30 c31 c32 c33 c34 c35 c36 c37 c38 c39 c40 c41 c42 c43 c44 c45 c46 c47 c48 c49 c50 c51 c52 c53 c54 c55 c56 c57 c58 c59 c60 c61 c62 c63 c64 c65 c66 c67 c68 c69 c70 c71 c72 c73 c74 c75 c76 c77 c78 c79 c80 c81 c82 c83 c84 c85 c86 c87 c88 c89 c90 c91 c92 c93 c94 c95 c96 c97 c98 c99 c100 c101 c102 c103 c104 c105 c106 c107 c108 c109 c110 c111 c112 c113 c114 c115 c116 c117 c118 c119 c120 c121 c122 c123 c124 c125 c126 c127 c128 c129 c130 c131 c132 c133 c134 c135 c136 c137 c138 c139 c140 c141 c142 c143 c144 c145 c146 c147 c148 c149 c150 c151 c152 c153 c154 c155 c156 c157 c158 c159 c160 c161 c162 c163 c164 c165 c166 c167 c168 c169 c170 c171 c172 c173 c174 c175 c176 c177 c178 c179 c180 c181 c182 c183 c184 c185 c186 c187 c188 c189 c190 c191 c192 c193 c194 c195 c196 c197 c198 c199 c200 c201 c202 c203 c204 c205 c206 c207 c208 c209 c210 c211 c212 c213 c214 c215 c216 c217 c218 c219 c220 c221 c222 c223 c224 c225 c226 c227 c228 c229 c230 c231 c232 c233 c234 c235 c236 c237 c238 c239 c240 c241 c242 c243 c244 c245 c246 c247 c248 c249 c250 c251 c252 c253 c254 c255 c256 c257 c258 c259 c260 c261 c262 c263 c264 c265 c266 c267 c268 c269 c270 c271 c272 c273 c274 : Value} {K : Act → World → Prop} {Q0 : Exit → Act → World → Prop} (hA : Acted x y e)
    (h15 : w.heap[g15]? = some (.cells #[.int .i64 x.f0.f0, .int .i64 x.f0.f1, .int .i64 x.f1, .int .i64 x.f2, .int .i64 x.f3, .int .i64 x.f4, .int .i64 x.f5, .int .i64 x.f6] 33 (0, 0))) (h16 : w.heap[g16]? = some (.cells #[.int .i64 y.f0.f0, .int .i64 y.f0.f1, .int .i64 y.f1, .int .i64 y.f2, .int .i64 y.f3, .int .i64 y.f4, .int .i64 y.f5, .int .i64 y.f6] 33 (0, 0)))
    (hK : ∀ (u172 u173 u174 u175 u176 u177 u178 u179 u180 u181 u182 u183 u184 u185 : Value) (w' : World), Below w.heap.size w w' → K ⟨#[c0, c1, c2, c3, c4, c5, c6, c7, c8, c9, c10, c11, c12, c13, c14, .pointer (some ⟨g15, 0, none⟩), .pointer (some ⟨g16, 0, none⟩), .int .i64 e, c18, c19, c20, c21, c22, c23, c24, c25, c26, c27, c28, c29, c30, c31, c32, c33, c34, c35, c36, c37, c38, c39, c40, c41, c42, c43, c44, c45, c46, c47, c48, c49, c50, c51, c52, c53, c54, c55, c56, c57, c58, c59, c60, c61, c62, c63, c64, c65, c66, c67, c68, c69, c70, c71, c72, c73, c74, c75, c76, c77, c78, c79, c80, c81, c82, c83, c84, c85, c86, c87, c88, c89, c90, c91, c92, c93, c94, c95, c96, c97, c98, c99, c100, c101, c102, c103, c104, c105, c106, c107, c108, c109, c110, c111, c112, c113, c114, c115, c116, c117, c118, c119, c120, c121, c122, c123, c124, c125, c126, c127, c128, c129, c130, c131, c132, c133, c134, c135, c136, c137, c138, c139, c140, c141, c142, c143, c144, c145, c146, c147, c148, c149, c150, c151, c152, c153, c154, c155, c156, c157, c158, c159, c160, c161, c162, c163, c164, c165, c166, c167, c168, c169, c170, c171, u172, u173, u174, u175, u176, u177, u178, u179, u180, u181, u182, u183, u184, u185, .bool false, c187, c188, c189, c190, c191, c192, c193, c194, c195, c196, c197, c198, c199, c200, c201, c202, c203, c204, c205, c206, c207, c208, c209, c210, c211, c212, c213, c214, c215, c216, c217, c218, c219, c220, c221, c222, c223, c224, c225, c226, c227, c228, c229, c230, c231, c232, c233, c234, c235, c236, c237, c238, c239, c240, c241, c242, c243, c244, c245, c246, c247, c248, c249, c250, c251, c252, c253, c254, c255, c256, c257, c258, c259, c260, c261, c262, c263, c264, c265, c266, c267, c268, c269, c270, c271, c272, c273, c274], []⟩ w') :
    Code.wp Try.prog ov36 (Exit.then K Q0) ⟨#[c0, c1, c2, c3, c4, c5, c6, c7, c8, c9, c10, c11, c12, c13, c14, .pointer (some ⟨g15, 0, none⟩), .pointer (some ⟨g16, 0, none⟩), .int .i64 e, c18, c19, c20, c21, c22, c23, c24, c25, c26, c27, c28, c29, c30, c31, c32, c33, c34, c35, c36, c37, c38, c39, c40, c41, c42, c43, c44, c45, c46, c47, c48, c49, c50, c51, c52, c53, c54, c55, c56, c57, c58, c59, c60, c61, c62, c63, c64, c65, c66, c67, c68, c69, c70, c71, c72, c73, c74, c75, c76, c77, c78, c79, c80, c81, c82, c83, c84, c85, c86, c87, c88, c89, c90, c91, c92, c93, c94, c95, c96, c97, c98, c99, c100, c101, c102, c103, c104, c105, c106, c107, c108, c109, c110, c111, c112, c113, c114, c115, c116, c117, c118, c119, c120, c121, c122, c123, c124, c125, c126, c127, c128, c129, c130, c131, c132, c133, c134, c135, c136, c137, c138, c139, c140, c141, c142, c143, c144, c145, c146, c147, c148, c149, c150, c151, c152, c153, c154, c155, c156, c157, c158, c159, c160, c161, c162, c163, c164, c165, c166, c167, c168, c169, c170, c171, c172, c173, c174, c175, c176, c177, c178, c179, c180, c181, c182, c183, c184, c185, c186, c187, c188, c189, c190, c191, c192, c193, c194, c195, c196, c197, c198, c199, c200, c201, c202, c203, c204, c205, c206, c207, c208, c209, c210, c211, c212, c213, c214, c215, c216, c217, c218, c219, c220, c221, c222, c223, c224, c225, c226, c227, c228, c229, c230, c231, c232, c233, c234, c235, c236, c237, c238, c239, c240, c241, c242, c243, c244, c245, c246, c247, c248, c249, c250, c251, c252, c253, c254, c255, c256, c257, c258, c259, c260, c261, c262, c263, c264, c265, c266, c267, c268, c269, c270, c271, c272, c273, c274], []⟩ w := by
  have H15 := Aside0.mk h15; have HHK := Aside0.mk hK
  have B0 := Aside0.mk (Below.refl w.heap.size w)
  by_cases he : e = 0
  · have t1 : (e != 0) = false := by simp [he]
    have t2 : (e == 0) = true := beq_iff_eq.mpr he
    obtain ⟨b, hb⟩ : ∃ b, b = false := ⟨_, rfl⟩
    have HB := Aside0.mk (show item_Over.f x.f0.f0 x.f0.f1 x.f1 x.f2 x.f3 x.f4 x.f5 x.f6 = some b by rw [over_f, hA.yes he, hb])
    subst hb
    clear h15 h16 hK hA he
    conv => arg 2; whnf
    go_wp2_with (first | ((with_reducible refine gate_ (.load 33 (.tmp 15)) rfl ?_); (try (refine gate_guard (by rfl) ?_; dsimp only)); refine ev_load (cs := #[.int .i64 x.f0.f0, .int .i64 x.f0.f1, .int .i64 x.f1, .int .i64 x.f2, .int .i64 x.f3, .int .i64 x.f4, .int .i64 x.f5, .int .i64 x.f6]) (.tmp 15) rfl rfl rfl Try.underlying33 H15.out (by kernel_rfl) ?_) | (go_at_call 15; (with_reducible refine (item_Over.calls _ _ _ _ _ _ _ _ false _ HB.out).mono ?_); rintro r we ⟨rfl, hd⟩; have B1 := Aside0.mk (hd); clear hd))
    exact HHK.out _ _ _ _ _ _ _ _ _ _ _ _ _ _ _ B1.out
  · have t1 : (e != 0) = true := bne_iff_ne.mpr he
    have t2 : (e == 0) = false := beq_eq_false_iff_ne.mpr he
    have hyx := hA.no he
    subst hyx
    have H16 := Aside0.mk h16
    have hq := eq8_self y
    obtain ⟨b, hb⟩ : ∃ b, b = overI y := ⟨_, rfl⟩
    have HB := Aside0.mk (show item_Over.f y.f0.f0 y.f0.f1 y.f1 y.f2 y.f3 y.f4 y.f5 y.f6 = some b by rw [over_f, hb])
    clear h15 h16 hK hA he hb
    cases b
    · conv => arg 2; whnf
      go_wp2_with (first | ((with_reducible refine gate_ (.load 33 (.tmp 15)) rfl ?_); (try (refine gate_guard (by rfl) ?_; dsimp only)); refine ev_load (cs := #[.int .i64 y.f0.f0, .int .i64 y.f0.f1, .int .i64 y.f1, .int .i64 y.f2, .int .i64 y.f3, .int .i64 y.f4, .int .i64 y.f5, .int .i64 y.f6]) (.tmp 15) rfl rfl rfl Try.underlying33 H15.out (by kernel_rfl) ?_) | ((with_reducible refine gate_ (.load 33 (.tmp 16)) rfl ?_); (try (refine gate_guard (by rfl) ?_; dsimp only)); refine ev_load (cs := #[.int .i64 y.f0.f0, .int .i64 y.f0.f1, .int .i64 y.f1, .int .i64 y.f2, .int .i64 y.f3, .int .i64 y.f4, .int .i64 y.f5, .int .i64 y.f6]) (.tmp 16) rfl rfl rfl Try.underlying33 H16.out (by kernel_rfl) ?_) | (go_at_call 15; (with_reducible refine (item_Over.calls _ _ _ _ _ _ _ _ false _ HB.out).mono ?_); rintro r we ⟨rfl, hd⟩; have B1 := Aside0.mk (hd); clear hd))
      exact HHK.out _ _ _ _ _ _ _ _ _ _ _ _ _ _ _ B1.out
    · conv => arg 2; whnf
      go_wp2_with (first | ((with_reducible refine gate_ (.load 33 (.tmp 15)) rfl ?_); (try (refine gate_guard (by rfl) ?_; dsimp only)); refine ev_load (cs := #[.int .i64 y.f0.f0, .int .i64 y.f0.f1, .int .i64 y.f1, .int .i64 y.f2, .int .i64 y.f3, .int .i64 y.f4, .int .i64 y.f5, .int .i64 y.f6]) (.tmp 15) rfl rfl rfl Try.underlying33 H15.out (by kernel_rfl) ?_) | ((with_reducible refine gate_ (.load 33 (.tmp 16)) rfl ?_); (try (refine gate_guard (by rfl) ?_; dsimp only)); refine ev_load (cs := #[.int .i64 y.f0.f0, .int .i64 y.f0.f1, .int .i64 y.f1, .int .i64 y.f2, .int .i64 y.f3, .int .i64 y.f4, .int .i64 y.f5, .int .i64 y.f6]) (.tmp 16) rfl rfl rfl Try.underlying33 H16.out (by kernel_rfl) ?_) | (go_at_call 15; (with_reducible refine (item_Over.calls _ _ _ _ _ _ _ _ true _ HB.out).mono ?_); rintro r we ⟨rfl, hd⟩; have B1 := Aside0.mk (hd); clear hd))
      exact HHK.out _ _ _ _ _ _ _ _ _ _ _ _ _ _ _ B1.out
theorem C_empty {α : Type} {d : Kd α} (w : World) (A : Option Addr) : Kd.C d w A ([] : List α).length [] := ⟨rfl, by simp, fun h => absurd h (Nat.lt_irrefl 0)⟩
theorem open_calls {me c o' : Int} {A P : Option Addr} {n cc q : Nat} {l : List S33} {w : World} (hn : n = l.length) (hC : Kd.C k33 w A l.length l) (hc : n ≤ cc) (ho : 0 ≤ o') (hf : ∀ x ∈ l, Fit x) (hp : ∀ x ∈ l, x.f0.f0 = o' ∨ x.f1 = o') (hl : l.length ≤ 1024) :
    Calls Try.prog 16 #[.agg #[.int .i64 me, .slice A n cc, .slice P 0 q], .int .i64 c, .int .i64 o'] w fun e w' => e = .returned (.tuple #[.int .i64 (opens me c l).sum, .int .i64 0]) ∧ Below w.heap.size w w' := by
  subst hn
  exact book_Book_Open.calls _ me A cc l P q [] c o' _ 0 w hC hc (C_empty w P) (Nat.zero_le _) (open_f [] ho hf hp hl)
theorem add_first {c s : Int} {w : World} (h0 : 0 ≤ c) (h1 : c < 8) (hs : In64 s) :
    Calls Try.prog 18 #[.agg #[.slice none 0 0], .int .i64 0, .int .i64 c, .int .i64 s] w fun x w' => ∃ A' n' c', x = .returned (.tuple #[.agg #[.slice A' n' c'], .int .i64 0]) ∧ n' = (one 0 c s).length ∧ Kd.R k63 63 w' w.heap.size (fun _ => True) (.slice A' n' c') (one 0 c s) ∧ Below w.heap.size w w' := by
  have hb : KB ⟨0, c, 0⟩ := ⟨⟨show (0 : Int) ≤ 0 by decide, show (0 : Int) < 8 by decide⟩, h0, h1⟩
  have h := vec_add (A := none) (c := 0) (l := one 0 c 0) (e := 0) (cu := c) (am := s) (w := w) (by rw [one_zero]; exact C_empty w none) (one_ok hb) hb (one_end 0 c 0 s) (by rw [M.one_of]; exact ⟨by decide, by decide⟩) hs (by rw [M.one_of, Int.zero_add]; exact hs)
  rw [one_add, one_zero, Int.zero_add] at h
  refine h.mono ?_
  rintro x w' ⟨v, rfl, hO, hb⟩
  obtain ⟨A', c', rfl⟩ := Kd.R_slice hO
  exact ⟨A', _, c', rfl, rfl, hO, hb⟩
theorem add_second {A : Option Addr} {n cc : Nat} {c s m : Int} {w : World} (hn : n = (one 0 c s).length) (hC : Kd.C k63 w A (one 0 c s).length (one 0 c s)) (h0 : 0 ≤ c) (h1 : c < 8) (hm : In64 m) :
    Calls Try.prog 18 #[.agg #[.slice A n cc], .int .i64 1, .int .i64 c, .int .i64 m] w fun x w' => ∃ A' n' c', x = .returned (.tuple #[.agg #[.slice A' n' c'], .int .i64 0]) ∧ n' = (one 0 c s ++ one 1 c m).length ∧ Kd.R k63 63 w' w.heap.size (fun _ => True) (.slice A' n' c') (one 0 c s ++ one 1 c m) ∧ Below w.heap.size w w' := by
  subst hn
  have hb : KB ⟨0, c, 0⟩ := ⟨⟨show (0 : Int) ≤ 0 by decide, show (0 : Int) < 8 by decide⟩, h0, h1⟩
  have hb1 : KB ⟨1, c, m⟩ := ⟨⟨show (0 : Int) ≤ 1 by decide, show (1 : Int) < 8 by decide⟩, h0, h1⟩
  have h := vec_add (c := cc) (l := one 0 c s) (e := 1) (cu := c) (am := m) (w := w) hC (one_ok hb) hb1 (fun _ => two_at c s m) (by rw [M.two_of]; exact ⟨by decide, by decide⟩) hm (by rw [M.two_of, Int.zero_add]; exact hm)
  rw [two_add] at h
  refine h.mono ?_
  rintro x w' ⟨v, rfl, hO, hb⟩
  obtain ⟨A', c', rfl⟩ := Kd.R_slice hO
  exact ⟨A', _, c', rfl, rfl, hO, hb⟩
theorem total_calls {A : Option Addr} {n cc : Nat} {c s m : Int} {w : World} (hn : n = (one 0 c s ++ one 1 c m).length) (hC : Kd.C k63 w A (one 0 c s ++ one 1 c m).length (one 0 c s ++ one 1 c m)) (hc : n ≤ cc) (hs : In64 s) (hm : In64 m) (hsm : s + m = 0) :
    Calls Try.prog 19 #[.agg #[.slice A n cc], .int .i64 c] w fun x w' => x = .returned (.tuple #[.int .i64 0, .int .i64 0]) ∧ Below w.heap.size w w' := by
  subst hn
  obtain ⟨k, hk⟩ := total_two (c := c) hs hm hsm
  exact vector_Vector_Total.calls k A cc _ c 0 0 w hC hc hk
/-- what a book has, in a world -/
structure BookAt (w : World) (g : Nat) (me : Int) (P : Option Addr) (q n : Nat) (l : List S33) : Prop where
  at_ : ∃ A c, w.heap[g]? = some (.cells #[.int .i64 me, .slice A n c, .slice P 0 q] 26 (0, 0)) ∧ Kd.C k33 w A l.length l ∧ n ≤ c
  len : n = l.length
theorem BookAt.below {w w' : World} {g : Nat} {me : Int} {P : Option Addr} {q n : Nat} {l : List S33} (h : BookAt w g me P q n l) (hb : Below w.heap.size w w') : BookAt w' g me P q n l := by
  obtain ⟨⟨A, c, h1, h2, h3⟩, h4⟩ := h
  exact ⟨⟨A, c, blk_below h1 hb, Kd.C_below h2 hb, h3⟩, h4⟩
/-- the items of both books, in a round -/
structure Both (l : List S33) (m : Nat) : Prop where
  sort : SortI l
  fit : ∀ x ∈ l, Fit x
  two : ∀ x ∈ l, x.f0.f0 + x.f1 = 1
  len : l.length ≤ m
theorem Both.put {l : List S33} {m : Nat} (h : Both l m) {x : S33} (hf : Fit x) (hp : x.f0.f0 + x.f1 = 1) : Both (putI l x) (m + 1) :=
  ⟨put_sort h.sort x, fun y hy => (put_mem hy).elim (fun e => e ▸ hf) (h.fit y), fun y hy => (put_mem hy).elim (fun e => e ▸ hp) (h.two y), Nat.le_trans (put_len l x).2 (Nat.succ_le_succ h.len)⟩
theorem Both.more {l : List S33} {m k : Nat} (h : Both l m) (hk : m ≤ k) : Both l k := ⟨h.sort, h.fit, h.two, Nat.le_trans h.len hk⟩
theorem party {x : S33} (hf : Fit x) (hp : x.f0.f0 + x.f1 = 1) : (x.f0.f0 = 0 ∨ x.f1 = 0) ∧ (x.f0.f0 = 1 ∨ x.f1 = 1) := by
  have h1 : 0 ≤ x.f0.f0 := hf.1.1
  have h2 : 0 ≤ x.f1 := hf.1.2.2.1
  omega
set_option maxHeartbeats 8000000 in
set_option maxRecDepth 1000000 in
theorem life_in {w : World} {l : List S33} {j n q5 q7 m : Nat} {g5 g7 : Nat} {P5 P7 : Option Addr} {c0 c1 c2 c3 c4 c6 c8 c9 c10 c11 c12 c13 c14 c15 c16 c17 c18 c19 c20 c21 c22 c23 c24 c25 c26 c27 c28 c29 c30 c31 c32 c33 c34 c35 c36 c37 c38 c39 c40 c41 c42 c43 c44 c45 c46 c47 c48 c49 c50 c51 c52 c53 c54 c55 c56 c57 c58 c59 c60 c61 c62 c63 c64 c65 c66 c67 c68 c69 c70 c71 c72 c73 c74 c75 c76 c77 c78 c79 c80 c81 c82 c83 c84 c85 c86 c87 c88 c89 c90 c91 c92 c93 c94 c95 c96 c97 c98 c99 c100 c101 c102 c103 c104 c105 c106 c107 c108 c109 c110 c111 c112 c113 c114 c115 c116 c117 c118 c119 c120 c121 c122 c123 c124 c125 c126 c127 c128 c129 c130 c131 c132 c133 c134 c135 c136 c137 c138 c139 c140 c141 c142 c143 c144 c145 c146 c147 c148 c149 c150 c151 c152 c153 c154 c155 c156 c157 c158 c159 c160 c161 c162 c163 c164 c165 c166 c167 c168 c169 c170 c171 c172 c173 c174 c175 c176 c177 c178 c179 c180 c181 c182 c183 c184 c185 c186 c187 c188 c189 c190 c191 c192 c193 c194 c195 c196 c197 c198 c199 c200 c201 c202 c203 c204 c206 c207 c208 c209 c210 c211 c212 c213 c214 c215 c216 c217 c218 c219 c220 c221 c222 c223 c224 c225 c226 c227 c228 c229 c230 c231 c232 c233 c234 c235 c236 c237 c238 c239 c240 c241 c242 c243 c244 c245 c246 c247 c248 c249 c250 c251 c252 c253 c254 c255 c256 c257 c258 c259 c260 c261 c262 c263 c264 c265 c266 c267 c268 c269 c270 c271 c272 c273 c274 : Value} {K : Act → World → Prop} {Q0 : Exit → Act → World → Prop} (hj : j < 2) (hB : Both l m) (hm : m ≤ 1000)
    (h5 : BookAt w g5 0 P5 q5 n l) (h7 : BookAt w g7 1 P7 q7 n l)
    (hK : ∀ (u18 u19 u20 u21 u22 u23 u24 u25 u26 u27 u206 u207 u208 u209 u210 u211 u212 u213 u214 u215 u216 u217 u218 u219 u220 u221 u222 u223 u224 u225 u226 u227 u228 u229 u230 u231 u232 u233 u234 u235 u236 u237 u238 u239 u240 u241 u242 u243 u244 u245 u246 u247 u248 u249 u250 u251 u252 u253 u254 u255 u256 u257 u258 u259 u260 u261 u262 u263 u264 u265 u266 : Value) (w' : World), Below w.heap.size w w' → K ⟨#[c0, c1, c2, c3, c4, .pointer (some ⟨g5, 0, none⟩), c6, .pointer (some ⟨g7, 0, none⟩), c8, c9, c10, c11, c12, c13, c14, c15, c16, c17, u18, u19, u20, u21, u22, u23, u24, u25, u26, u27, c28, c29, c30, c31, c32, c33, c34, c35, c36, c37, c38, c39, c40, c41, c42, c43, c44, c45, c46, c47, c48, c49, c50, c51, c52, c53, c54, c55, c56, c57, c58, c59, c60, c61, c62, c63, c64, c65, c66, c67, c68, c69, c70, c71, c72, c73, c74, c75, c76, c77, c78, c79, c80, c81, c82, c83, c84, c85, c86, c87, c88, c89, c90, c91, c92, c93, c94, c95, c96, c97, c98, c99, c100, c101, c102, c103, c104, c105, c106, c107, c108, c109, c110, c111, c112, c113, c114, c115, c116, c117, c118, c119, c120, c121, c122, c123, c124, c125, c126, c127, c128, c129, c130, c131, c132, c133, c134, c135, c136, c137, c138, c139, c140, c141, c142, c143, c144, c145, c146, c147, c148, c149, c150, c151, c152, c153, c154, c155, c156, c157, c158, c159, c160, c161, c162, c163, c164, c165, c166, c167, c168, c169, c170, c171, c172, c173, c174, c175, c176, c177, c178, c179, c180, c181, c182, c183, c184, c185, c186, c187, c188, c189, c190, c191, c192, c193, c194, c195, c196, c197, c198, c199, c200, c201, c202, c203, c204, .int .i64 (wrap64 ((j : Int) + 1)), u206, u207, u208, u209, u210, u211, u212, u213, u214, u215, u216, u217, u218, u219, u220, u221, u222, u223, u224, u225, u226, u227, u228, u229, u230, u231, u232, u233, u234, u235, u236, u237, u238, u239, u240, u241, u242, u243, u244, u245, u246, u247, u248, u249, u250, u251, u252, u253, u254, u255, u256, u257, u258, u259, u260, u261, u262, u263, u264, u265, u266, c267, c268, c269, c270, c271, c272, c273, c274], []⟩ w') :
    Code.wp Try.prog body5 (Exit.then K Q0) ⟨#[c0, c1, c2, c3, c4, .pointer (some ⟨g5, 0, none⟩), c6, .pointer (some ⟨g7, 0, none⟩), c8, c9, c10, c11, c12, c13, c14, c15, c16, c17, c18, c19, c20, c21, c22, c23, c24, c25, c26, c27, c28, c29, c30, c31, c32, c33, c34, c35, c36, c37, c38, c39, c40, c41, c42, c43, c44, c45, c46, c47, c48, c49, c50, c51, c52, c53, c54, c55, c56, c57, c58, c59, c60, c61, c62, c63, c64, c65, c66, c67, c68, c69, c70, c71, c72, c73, c74, c75, c76, c77, c78, c79, c80, c81, c82, c83, c84, c85, c86, c87, c88, c89, c90, c91, c92, c93, c94, c95, c96, c97, c98, c99, c100, c101, c102, c103, c104, c105, c106, c107, c108, c109, c110, c111, c112, c113, c114, c115, c116, c117, c118, c119, c120, c121, c122, c123, c124, c125, c126, c127, c128, c129, c130, c131, c132, c133, c134, c135, c136, c137, c138, c139, c140, c141, c142, c143, c144, c145, c146, c147, c148, c149, c150, c151, c152, c153, c154, c155, c156, c157, c158, c159, c160, c161, c162, c163, c164, c165, c166, c167, c168, c169, c170, c171, c172, c173, c174, c175, c176, c177, c178, c179, c180, c181, c182, c183, c184, c185, c186, c187, c188, c189, c190, c191, c192, c193, c194, c195, c196, c197, c198, c199, c200, c201, c202, c203, c204, .int .i64 (j : Int), c206, c207, c208, c209, c210, c211, c212, c213, c214, c215, c216, c217, c218, c219, c220, c221, c222, c223, c224, c225, c226, c227, c228, c229, c230, c231, c232, c233, c234, c235, c236, c237, c238, c239, c240, c241, c242, c243, c244, c245, c246, c247, c248, c249, c250, c251, c252, c253, c254, c255, c256, c257, c258, c259, c260, c261, c262, c263, c264, c265, c266, c267, c268, c269, c270, c271, c272, c273, c274], []⟩ w := by
  have HHK := Aside0.mk hK
  have B0 := Aside0.mk (Below.refl w.heap.size w)
  obtain ⟨⟨A5, c5, K5, C5, L5⟩, hn⟩ := h5
  obtain ⟨⟨A7, c7, K7, C7, L7⟩, -⟩ := h7
  have K5 := Aside0.mk K5; have K7 := Aside0.mk K7; have C5 := Aside0.mk C5; have C7 := Aside0.mk C7; have L5 := Aside0.mk L5; have L7 := Aside0.mk L7; have HN := Aside0.mk hn
  obtain ⟨S, hS⟩ : ∃ S, S = (opens 0 (j : Int) l).sum := ⟨_, rfl⟩
  have hsum := opens_sum (me := 0) (c := (j : Int)) hB.fit (by have := hB.len; omega)
  have hneg := opens_neg (c := (j : Int)) hB.fit hB.two
  rw [← hS] at hsum hneg
  have O5 := Aside0.mk (fun (w' : World) (hb : Below w.heap.size w w') => open_calls (me := 0) (c := (j : Int)) (o' := 1) (P := P5) (q := q5) HN.out (Kd.C_below C5.out hb) L5.out (by decide) hB.fit (fun x hx => (party (hB.fit x hx) (hB.two x hx)).2) (by have := hB.len; omega))
  have O7 := Aside0.mk (fun (w' : World) (hb : Below w.heap.size w w') => open_calls (me := 1) (c := (j : Int)) (o' := 0) (P := P7) (q := q7) HN.out (Kd.C_below C7.out hb) L7.out (by decide) hB.fit (fun x hx => (party (hB.fit x hx) (hB.two x hx)).1) (by have := hB.len; omega))
  rw [hneg] at O7
  rw [← hS] at O5
  have NG := Aside0.mk (neg_f hsum.2)
  rw [Int.neg_neg, fit_in hsum.1] at NG
  have H1 := Aside0.mk hsum.1; have H2 := Aside0.mk hsum.2
  have HJ := Aside0.mk hj
  have HSM := Aside0.mk (show S + -S = 0 by omega)
  have j1 : decide ((j : Int) < 2) = true := decide_eq_true (by omega)
  have j2 : decide (j < 2) = true := decide_eq_true hj
  have j3 : (j < 2) = True := eq_true hj
  obtain ⟨M, hM⟩ : ∃ M, M = -S := ⟨_, rfl⟩
  rw [← hM] at O7 NG H2 HSM
  clear hK hB hm hn hS hsum hneg hj hM
  conv => arg 2; whnf
  go_wp2_with (first | ((with_reducible refine gate_ (.load 26 (.tmp 5)) rfl ?_); (try (refine gate_guard (by rfl) ?_; dsimp only)); refine ev_load (cs := #[.int .i64 0, .slice A5 n c5, .slice P5 0 q5]) (.tmp 5) rfl rfl rfl Try.underlying26 K5.out (by kernel_rfl) ?_) | (go_at_call 16; (with_reducible refine (O5.out w B0.out).mono ?_); rintro r w1 ⟨rfl, hb⟩; have B1 := Aside0.mk hb; have K7b := Aside0.mk (blk_below K7.out hb); clear hb) | ((with_reducible refine gate_ (.load 26 (.tmp 7)) rfl ?_); (try (refine gate_guard (by rfl) ?_; dsimp only)); refine ev_load (cs := #[.int .i64 1, .slice A7 n c7, .slice P7 0 q7]) (.tmp 7) rfl rfl rfl Try.underlying26 K7b.out (by kernel_rfl) ?_) | (go_at_call 16; (with_reducible refine (O7.out w1 B1.out).mono ?_); rintro r w2 ⟨rfl, hb⟩; have B2 := Aside0.mk (below_step B1.out hb); clear hb) | (go_at_call 17; (with_reducible refine (money_Neg.calls M S 0 w2 NG.out).mono ?_); rintro r w3 ⟨rfl, hd⟩; have B3 := Aside0.mk (below_step B2.out hd.below); clear hd) | ((with_reducible refine gate_dst (N := 25) rfl ?_); refine box_event ?hg (N := 25) ?hd (cs := #[.slice none 0 0]) (t := 48) ?hr ?_; (case hd => rfl); (case hg => rfl); (case hr => first | (go_simp; done) | (go_simp; rfl)); intro g25 hg w4 hbox hb; have B4 := Aside0.mk (below_step B3.out hb); have K25 := Aside0.mk hbox; have G25 := Aside0.mk (show w.heap.size ≤ g25 from by rw [hg]; exact B3.out.size); clear hb hg hbox) | ((with_reducible refine gate_ (.load 48 (.tmp 25)) rfl ?_); (try (refine gate_guard (by rfl) ?_; dsimp only)); refine ev_load (cs := #[.slice none 0 0]) (.tmp 25) rfl rfl rfl Try.underlying48 K25.out (by kernel_rfl) ?_) | (go_at_call 18; (with_reducible refine (add_first (w := w4) (by omega) (by have := HJ.out; omega) H1.out).mono ?_); rintro r w5 ⟨Aa, na, ca, rfl, hn, hO, hb⟩; have B5 := Aside0.mk (below_step B4.out hb); have K25b := Aside0.mk (blk_below K25.out hb); have NA := Aside0.mk hn; have RA := Aside0.mk (Kd.R_mono (ok' := fun k => k ≠ g25) (Kd.R_bound hO) (fun k hk => Nat.ne_of_gt (Nat.lt_of_lt_of_le (blk_lt K25.out) hk.2.1))); clear hb hn hO) | ((with_reducible refine gate_store (t := 48) (p := 25) (v := .tmp 245) rfl ?_); refine ev_store (old := #[.slice none 0 0]) (new := #[.slice Aa na ca]) (.tmp 25) (.tmp 245) rfl rfl rfl rfl rfl K25b.out (by kernel_rfl) rfl ?h1_ ?_; (case h1_ => intro q hq; simp at hq; subst hq; rfl); intro w6 hK_ hP_; have B6 := Aside0.mk (hP_.below G25.out B5.out); have K25c := Aside0.mk hK_; have RA2 := Aside0.mk (Kd.R_kept RA.out hP_.kept (fun k hk e => hk e)); clear hK_ hP_) | ((with_reducible refine gate_ (.load 48 (.tmp 25)) rfl ?_); (try (refine gate_guard (by rfl) ?_; dsimp only)); refine ev_load (cs := #[.slice Aa na ca]) (.tmp 25) rfl rfl rfl Try.underlying48 K25c.out (by kernel_rfl) ?_) | (go_at_call 18; (with_reducible refine (add_second (w := w6) NA.out (Kd.R_reads' RA2.out).2.2 (by omega) (by have := HJ.out; omega) H2.out).mono ?_); rintro r w7 ⟨Ab, nb, cb, rfl, hn, hO, hb⟩; have B7 := Aside0.mk (below_step B6.out hb); have K25d := Aside0.mk (blk_below K25c.out hb); have NB := Aside0.mk hn; have RB := Aside0.mk (Kd.R_mono (ok' := fun k => k ≠ g25) (Kd.R_bound hO) (fun k hk => Nat.ne_of_gt (Nat.lt_of_lt_of_le (blk_lt K25c.out) hk.2.1))); clear hb hn hO) | ((with_reducible refine gate_store (t := 48) (p := 25) (v := .tmp 252) rfl ?_); refine ev_store (old := #[.slice Aa na ca]) (new := #[.slice Ab nb cb]) (.tmp 25) (.tmp 252) rfl rfl rfl rfl rfl K25d.out (by kernel_rfl) rfl ?h1_ ?_; (case h1_ => intro q hq; simp at hq; subst hq; rfl); intro w8 hK_ hP_; have B8 := Aside0.mk (hP_.below G25.out B7.out); have K25e := Aside0.mk hK_; have RB2 := Aside0.mk (Kd.R_kept RB.out hP_.kept (fun k hk e => hk e)); clear hK_ hP_) | ((with_reducible refine gate_ (.load 48 (.tmp 25)) rfl ?_); (try (refine gate_guard (by rfl) ?_; dsimp only)); refine ev_load (cs := #[.slice Ab nb cb]) (.tmp 25) rfl rfl rfl Try.underlying48 K25e.out (by kernel_rfl) ?_) | (go_at_call 19; (with_reducible refine (total_calls (w := w8) NB.out (Kd.R_reads' RB2.out).2.2 (Kd.R_reads' RB2.out).2.1 H1.out H2.out HSM.out).mono ?_); rintro r w9 ⟨rfl, hb⟩; have B9 := Aside0.mk (below_step B8.out hb); clear hb))
  exact HHK.out _ _ _ _ _ _ _ _ _ _ _ _ _ _ _ _ _ _ _ _ _ _ _ _ _ _ _ _ _ _ _ _ _ _ _ _ _ _ _ _ _ _ _ _ _ _ _ _ _ _ _ _ _ _ _ _ _ _ _ _ _ _ _ _ _ _ _ _ _ _ _ _ B9.out
end Go.Proofs.Ytianljjmnpdkcaa.Pure
