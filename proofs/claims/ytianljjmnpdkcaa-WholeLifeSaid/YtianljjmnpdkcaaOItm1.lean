/-
  Items: their order, and slices.BinarySearchFunc by a name.
-/
import Derived.Test.YtianljjmnpdkcaaPEv
import Derived.Test.YtianljjmnpdkcaaPOpen
import Derived.Test.YtianljjmnpdkcaaMx3
import Derived.Lib.SliceRun
namespace Go.Proofs.Ytianljjmnpdkcaa.M
open Go.RowKit Go.Proofs.YtianljjmnpdkcaaW.PrintWords Go.Proofs.YtianljjmnpdkcaaW.PrintLast Go.Proofs.YtianljjmnpdkcaaW.PrintMore
set_option linter.unusedVariables false
set_option linter.unusedSimpArgs false
/-- an item in memory, a name in memory -/
abbrev itV (x : S33) : Value := .agg #[.int .i64 x.f0.f0, .int .i64 x.f0.f1, .int .i64 x.f1, .int .i64 x.f2, .int .i64 x.f3, .int .i64 x.f4, .int .i64 x.f5, .int .i64 x.f6]
abbrev idV (t : S31) : Value := .agg #[.int .i64 t.f0, .int .i64 t.f1]
def sgn (a b : Int) : Int := if a < b then -1 else if b < a then 1 else 0
/-- the order of names -/
def cmpI (x t : S31) : Int := if sgn x.f0 t.f0 = 0 then sgn x.f1 t.f1 else sgn x.f0 t.f0
theorem sgn_f (a b : Int) : cmp_Compare_int.f a b = some (sgn a b) := by
  unfold cmp_Compare_int.f cmp_isNaN_int.f sgn
  have e : ∀ c : Int, (c != c) = false := fun c => by simp
  rw [e a, e b]
  simp only [Option.bind_some]
  rw [if_neg (by decide), if_neg (by decide)]
  by_cases h : a < b
  · rw [if_pos h, if_pos h]
  · rw [if_neg h, if_neg h]
    by_cases h2 : b < a
    · rw [if_pos (show a > b from h2), if_pos h2]
    · rw [if_neg (show ¬ a > b from h2), if_neg h2]
theorem or_f (a b : Int) : cmp_Or_int.f 3 [a, b] = some (if a = 0 then b else a) := by
  have r0 : rd [a, b] 0 = a := rfl
  have r1 : rd [a, b] 1 = b := rfl
  have w1 : wrap64 (0 + 1) = 1 := by unfold wrap64; omega
  have w2 : wrap64 (1 + 1) = 2 := by unfold wrap64; omega
  have l2 : (([a, b] : List Int).length : Int) = 2 := rfl
  unfold cmp_Or_int.f
  rw [l2]
  rw [cmp_Or_int.l0, l2, if_pos (by decide), if_pos (by decide), if_pos (by decide), r0]
  by_cases h : a = 0
  · rw [if_pos h, if_pos h, w1, cmp_Or_int.l0, l2, if_pos (by decide), if_pos (by decide), if_pos (by decide), r1]
    by_cases h2 : b = 0
    · rw [if_pos h2, w2, cmp_Or_int.l0, if_neg (by decide), h2]
    · rw [if_neg h2]
  · rw [if_neg h, if_neg h]
theorem byI_calls (x : S33) (t : S31) (w : World) : Calls Try.prog 21 #[itV x, idV t] w fun e w' => e = .returned (.int .i64 (cmpI x.f0 t)) ∧ Below w.heap.size w w' := by
  refine book_byItem.calls 3 _ _ _ _ _ _ _ _ _ _ _ w ?_
  unfold book_byItem.f book_Compare.f
  rw [sgn_f, Option.bind_some, sgn_f, Option.bind_some, or_f]
  rfl
/-- how many are ahead of a name -/
def atI (l : List S33) (t : S31) : Nat := l.countP (fun p => decide (cmpI p.f0 t < 0))
def thereI (l : List S33) (t : S31) : Bool := decide (atI l t < l.length) && decide (cmpI (l.getD (atI l t) z33).f0 t = 0)
def SortI (l : List S33) : Prop := l.Pairwise (fun a b => cmpI a.f0 b.f0 < 0)
theorem sgn_lt {a b : Int} : sgn a b < 0 ↔ a < b := by unfold sgn; split <;> (try split) <;> omega
theorem sgn_eq {a b : Int} : sgn a b = 0 ↔ a = b := by unfold sgn; split <;> (try split) <;> omega
theorem cmpI_lt {x t : S31} : cmpI x t < 0 ↔ x.f0 < t.f0 ∨ (x.f0 = t.f0 ∧ x.f1 < t.f1) := by
  unfold cmpI
  by_cases h : x.f0 = t.f0
  · rw [if_pos (sgn_eq.2 h), sgn_lt]; omega
  · rw [if_neg (fun e => h (sgn_eq.1 e)), sgn_lt]; omega
theorem cmpI_eq {x t : S31} : cmpI x t = 0 ↔ x.f0 = t.f0 ∧ x.f1 = t.f1 := by
  unfold cmpI
  by_cases h : x.f0 = t.f0
  · rw [if_pos (sgn_eq.2 h), sgn_eq]; omega
  · rw [if_neg (fun e => h (sgn_eq.1 e)), sgn_eq]; omega
theorem cmpI_trans {a b t : S31} (h : cmpI a b < 0) (k : cmpI b t < 0) : cmpI a t < 0 := by
  rw [cmpI_lt] at *; omega
theorem atI_le (l : List S33) (t : S31) : atI l t ≤ l.length := List.countP_le_length
theorem atI_iff {l : List S33} {t : S31} (hs : SortI l) : ∀ h, h < l.length → (cmpI (l.getD h z33).f0 t < 0 ↔ h < atI l t) := by
  induction l with
  | nil => intro h hh; simp at hh
  | cons a r ih =>
    have hr : SortI r := (List.pairwise_cons.1 hs).2
    have ha := (List.pairwise_cons.1 hs).1
    intro h hh
    unfold atI
    rw [List.countP_cons]
    by_cases hc : cmpI a.f0 t < 0
    · rw [if_pos (by simpa using hc)]
      cases h with
      | zero => simp only [List.getD_cons_zero]; exact ⟨fun _ => by omega, fun _ => hc⟩
      | succ h =>
        have hh' : h < r.length := by simpa using hh
        have := ih hr h hh'
        unfold atI at this
        simp only [List.getD_cons_succ]
        rw [this]
        omega
    · rw [if_neg (by simpa using hc)]
      have hz : r.countP (fun p => decide (cmpI p.f0 t < 0)) = 0 := by
        rw [List.countP_eq_zero]
        intro b hb
        simp only [decide_eq_true_eq]
        exact fun k => hc (cmpI_trans (ha b hb) k)
      rw [hz]
      cases h with
      | zero => simp only [List.getD_cons_zero]; exact ⟨fun k => absurd k hc, fun k => by omega⟩
      | succ h =>
        have hh' : h < r.length := by simpa using hh
        have := ih hr h hh'
        unfold atI at this
        rw [hz] at this
        simp only [List.getD_cons_succ]
        rw [this]
        omega
/-- an element's cells, by its place -/
theorem itC {l : List S33} {w : World} {A : Option Addr} (h : Kd.C k33 w A l.length l) {i : Nat} (hi : i < l.length) : ∃ ad, A = some ad ∧ w.cell? (ad.add (i * 8)) = some (.int .i64 (l.getD i z33).f0.f0) ∧ w.cell? ⟨(ad.add (i * 8)).block, (ad.add (i * 8)).off + 1, none⟩ = some (.int .i64 (l.getD i z33).f0.f1) ∧ w.cell? ⟨(ad.add (i * 8)).block, (ad.add (i * 8)).off + 2, none⟩ = some (.int .i64 (l.getD i z33).f1) ∧ w.cell? ⟨(ad.add (i * 8)).block, (ad.add (i * 8)).off + 3, none⟩ = some (.int .i64 (l.getD i z33).f2) ∧ w.cell? ⟨(ad.add (i * 8)).block, (ad.add (i * 8)).off + 4, none⟩ = some (.int .i64 (l.getD i z33).f3) ∧ w.cell? ⟨(ad.add (i * 8)).block, (ad.add (i * 8)).off + 5, none⟩ = some (.int .i64 (l.getD i z33).f4) ∧ w.cell? ⟨(ad.add (i * 8)).block, (ad.add (i * 8)).off + 6, none⟩ = some (.int .i64 (l.getD i z33).f5) ∧ w.cell? ⟨(ad.add (i * 8)).block, (ad.add (i * 8)).off + 7, none⟩ = some (.int .i64 (l.getD i z33).f6) := by
  have := at_T33 h (i : Int) (by omega) (by omega)
  unfold rd_T33 at this
  rw [Int.toNat_natCast] at this
  exact this
theorem half_ (i j : Nat) (hj : j ≤ 4096) (hi : i ≤ j) : IntKind.i64.wrap ((IntKind.u64.wrap (wrap64 ((i : Int) + (j : Int)))) / 2) = ((((i + j) / 2 : Nat)) : Int) := by
  rw [IntKind.wrap_i64, IntKind.wrap_u64]; unfold wrap64; omega
set_option maxHeartbeats 8000000 in
set_option maxRecDepth 100000 in
theorem bsfI_calls {A : Option Addr} {n c : Nat} {l : List S33} {t : S31} {w : World} (hn : n = l.length) (hC : Kd.C k33 w A l.length l) (hl : l.length ≤ 4096) (hs : SortI l) :
    Calls Try.prog 20 #[.slice A n c, idV t, .func (.func 21) #[] #[]] w fun x w' => x = .returned (.tuple #[.int .i64 (atI l t : Int), .bool (thereI l t)]) ∧ Below w.heap.size w w' := by
  have HC := Aside0.mk hC; have HL := Aside0.mk hl; have HNN := Aside0.mk hn
  have AI := Aside0.mk (atI_iff (t := t) hs); have AL := Aside0.mk (show atI l t ≤ n by rw [hn]; exact atI_le l t)
  have TH := Aside0.mk (show thereI l t = (decide (atI l t < n) && decide (cmpI (l.getD (atI l t) z33).f0 t = 0)) by rw [hn]; rfl)
  have HLN := Aside0.mk (show n ≤ 4096 by rw [hn]; exact hl)
  obtain ⟨m, hm⟩ : ∃ m, m = atI l t := ⟨_, rfl⟩
  rw [← hm] at AI AL TH ⊢
  obtain ⟨r, hr⟩ : ∃ r, r = thereI l t := ⟨_, rfl⟩
  rw [← hr] at TH ⊢
  clear hn hC hl hs hm hr
  go_enter Try.func20, Try.ntmps20
  go_wp2_with (first | ((with_reducible refine gate_dst (N := 4) rfl ?_); refine box_event ?hg (N := 4) ?hd (cs := #[.int .i64 t.f0, .int .i64 t.f1]) (t := 31) ?hr ?_; (case hd => rfl); (case hg => rfl); (case hr => first | (go_simp; done) | (go_simp; rfl)); intro g1 hg w1 hbox hb; have B1 := Aside0.mk hb; have K1 := Aside0.mk hbox; have G1 := Aside0.mk (show w.heap.size ≤ g1 from by rw [hg]; exact Nat.le_refl _); clear hb hg hbox))
  go_loopg [9, 10, 11] (n + 1) (fun kq v9 v10 v11 w' => ∃ (i j : Nat), v9 = .int .i64 (i : Int) ∧ v10 = .int .i64 (j : Int) ∧ Aside0 (i ≤ m ∧ m ≤ j ∧ j ≤ n ∧ j < i + kq) ∧ Aside0 (w'.heap[g1]? = some (.cells #[.int .i64 t.f0, .int .i64 t.f1] 31 (0, 0))) ∧ Aside0 (Below w.heap.size w w'))
  case atStart => exact ⟨0, n, rfl, rfl, ⟨by omega, AL.out, by omega, by omega⟩, K1, B1⟩
  case round =>
    obtain ⟨i, j, rfl, rfl, HI, KA, BA⟩ := hrel
    clear K1 B1
    obtain ⟨wa, rfl⟩ : ∃ wa : World, wa = wr := ⟨_, rfl⟩
    by_cases hij : i < j
    · have d1 : decide ((i : Int) < (j : Int)) = true := decide_eq_true (by omega)
      have d2 : (i < j) = True := eq_true hij
      have d3 : ((i : Int) < (j : Int)) = True := eq_true (by omega)
      have hh := half_ i j (by have := HI.out; have := HLN.out; omega) (by omega)
      obtain ⟨h, hhe⟩ : ∃ h, h = (i + j) / 2 := ⟨_, rfl⟩
      rw [← hhe] at hh
      have hhn : h < n := by have := HI.out; omega
      have HH := Aside0.mk (show i ≤ h ∧ h < j by omega)
      have NXT := Aside0.mk (show wrap64 ((h : Int) + 1) = ((h + 1 : Nat) : Int) by have := HLN.out; unfold wrap64; omega)
      clear hhe
      obtain ⟨ad, rfl, e0, e1, e2, e3, e4, e5, e6, e7⟩ := itC (Kd.C_below HC.out BA.out) (i := h) (HNN.out ▸ hhn)
      have z0 : wa.cell? ⟨g1, 0, none⟩ = some (.int .i64 t.f0) := (blk_cell KA.out 0).trans rfl
      have z1 : wa.cell? ⟨g1, 1, none⟩ = some (.int .i64 t.f1) := (blk_cell KA.out 1).trans rfl
      obtain ⟨pe, hpe⟩ : ∃ pe, pe = l.getD h z33 := ⟨_, rfl⟩
      rw [← hpe] at e0 e1 e2 e3 e4 e5 e6 e7
      have ix1 : (0 : Int) ≤ (h : Int) := by omega
      have ix2 : (h : Int) < (n : Int) := by omega
      have ix3 := eq_true ix1; have ix4 := eq_true ix2
      have ix5 : decide ((h : Int) < (n : Int)) = true := decide_eq_true ix2
      have ix6 : decide (h < n) = true := decide_eq_true (by omega)
      have ix7 : (h < n) = True := eq_true (by omega)
      have AH := Aside0.mk (AI.out h (HNN.out ▸ hhn))
      rw [← hpe] at AH
      clear hpe hhn ix3 ix4
      by_cases hcm : cmpI pe.f0 t < 0
      · have c1 : decide (cmpI pe.f0 t < 0) = true := decide_eq_true hcm
        have AH2 := Aside0.mk (AH.out.1 hcm)
        clear hcm hij AH
        go_wp2_with fail
        refine start_ (n := 8) (S := fun w' => w'.cell? (ad.add (h * 8)) = some (.int .i64 pe.f0.f0) ∧ w'.cell? ⟨(ad.add (h * 8)).block, (ad.add (h * 8)).off + 1, none⟩ = some (.int .i64 pe.f0.f1) ∧ w'.cell? ⟨(ad.add (h * 8)).block, (ad.add (h * 8)).off + 2, none⟩ = some (.int .i64 pe.f1) ∧ w'.cell? ⟨(ad.add (h * 8)).block, (ad.add (h * 8)).off + 3, none⟩ = some (.int .i64 pe.f2) ∧ w'.cell? ⟨(ad.add (h * 8)).block, (ad.add (h * 8)).off + 4, none⟩ = some (.int .i64 pe.f3) ∧ w'.cell? ⟨(ad.add (h * 8)).block, (ad.add (h * 8)).off + 5, none⟩ = some (.int .i64 pe.f4) ∧ w'.cell? ⟨(ad.add (h * 8)).block, (ad.add (h * 8)).off + 6, none⟩ = some (.int .i64 pe.f5) ∧ w'.cell? ⟨(ad.add (h * 8)).block, (ad.add (h * 8)).off + 7, none⟩ = some (.int .i64 pe.f6) ∧ w'.cell? ⟨g1, 0, none⟩ = some (.int .i64 t.f0) ∧ w'.cell? ⟨g1, 1, none⟩ = some (.int .i64 t.f1)) (ds := []) #[false, false, false, false, false, false, false, false] (by kernel_rfl) rfl rfl ⟨e0, e1, e2, e3, e4, e5, e6, e7, z0, z1⟩ (fun hHeld => ?_)
        refine pure_ (i := 0) (N := some 24) (v := ?_) (a' := ?_) #[true, false, false, false, false, false, false, false] rfl rfl (by kernel_rfl) (fun _ _ _ h => h) (Or.inl ⟨by rfl, ?_⟩) ?_ ?_
        rotate_left
        · intro w'
          go_simp
          with_reducible rfl
        rotate_left
        · simp only [Act.put, List.setIfInBounds_toArray, List.set_cons_zero, List.set_cons_succ, i64_w, i32_w]
          rfl
        refine pure_ (i := 1) (N := some 25) (v := ?_) (a' := ?_) #[true, true, false, false, false, false, false, false] rfl rfl (by kernel_rfl) (fun _ _ _ h => h) (Or.inl ⟨by rfl, ?_⟩) ?_ ?_
        rotate_left
        · intro w'
          go_simp
          with_reducible rfl
        rotate_left
        · simp only [Act.put, List.setIfInBounds_toArray, List.set_cons_zero, List.set_cons_succ, i64_w, i32_w]
          rfl
        refine pure_ (i := 2) (N := some 26) (v := ?_) (a' := ?_) #[true, true, true, false, false, false, false, false] rfl rfl (by kernel_rfl) (fun _ _ _ h => h) (Or.inl ⟨by rfl, ?_⟩) ?_ ?_
        rotate_left
        · intro w'
          go_simp
          with_reducible rfl
        rotate_left
        · simp only [Act.put, List.setIfInBounds_toArray, List.set_cons_zero, List.set_cons_succ, i64_w, i32_w]
          rfl
        refine pure_ (i := 3) (N := some 27) (v := ?_) (a' := ?_) #[true, true, true, true, false, false, false, false] rfl rfl (by kernel_rfl) (fun _ _ _ h => h) (Or.inl ⟨by rfl, ?_⟩) ?_ ?_
        rotate_left
        · intro w'
          go_simp
          with_reducible rfl
        rotate_left
        · simp only [Act.put, List.setIfInBounds_toArray, List.set_cons_zero, List.set_cons_succ, i64_w, i32_w]
          rfl
        refine take_ (i := 4) (N := some 28) (v := ?_) (a' := ?_) #[true, true, true, true, true, false, false, false] rfl rfl (by kernel_rfl) (fun _ _ _ h => h) (Or.inl ⟨by rfl, ?_⟩) hHeld ?_ ?_
        rotate_left
        · rintro w' ⟨s0, s1, s2, s3, s4, s5, s6, s7, s8, s9⟩
          go_simp
          with_reducible rfl
        rotate_left
        · simp only [Act.put, List.setIfInBounds_toArray, List.set_cons_zero, List.set_cons_succ, i64_w, i32_w]
          rfl
        refine take_ (i := 5) (N := some 29) (v := ?_) (a' := ?_) #[true, true, true, true, true, true, false, false] rfl rfl (by kernel_rfl) (fun _ _ _ h => h) (Or.inl ⟨by rfl, ?_⟩) hHeld ?_ ?_
        rotate_left
        · rintro w' ⟨s0, s1, s2, s3, s4, s5, s6, s7, s8, s9⟩
          go_simp
          with_reducible rfl
        rotate_left
        · simp only [Act.put, List.setIfInBounds_toArray, List.set_cons_zero, List.set_cons_succ, i64_w, i32_w]
          rfl
        refine one_ (i := 6) (N := some 30) #[true, true, true, true, true, true, true, false] rfl rfl (by kernel_rfl) (by decide) (fun K hK => ?_)
        refine call_ 21 #[itV pe, idV t] (by rfl) rfl ?hr ?_
        (case hr => first | (go_simp; done) | (go_simp; rfl))
        with_reducible refine (byI_calls pe t wa.drew).mono ?_
        rintro x w3 ⟨rfl, hb⟩
        refine ⟨_, rfl, ?_⟩
        have BC := Aside0.mk (below_step (below_drew BA.out) hb)
        refine hK.out _ _ ⟨pw_cell_below hb e0, pw_cell_below hb e1, pw_cell_below hb e2, pw_cell_below hb e3, pw_cell_below hb e4, pw_cell_below hb e5, pw_cell_below hb e6, pw_cell_below hb e7, pw_cell_below hb z0, pw_cell_below hb z1⟩ (fun hHeld => ?_)
        clear hK K
        refine norm_ (a' := ?_) ?_ ?_
        rotate_left
        · show Act.put _ (some 30) _ = _
          simp only [Act.put, List.setIfInBounds_toArray, List.set_cons_zero, List.set_cons_succ, i64_w, i32_w]
          rfl
        refine pure_ (i := 7) (N := some 31) (v := ?_) (a' := ?_) #[true, true, true, true, true, true, true, true] rfl rfl (by kernel_rfl) (fun _ _ _ h => h) (Or.inl ⟨by rfl, ?_⟩) ?_ ?_
        rotate_left
        · intro w'
          go_simp
          with_reducible rfl
        rotate_left
        · simp only [Act.put, List.setIfInBounds_toArray, List.set_cons_zero, List.set_cons_succ, i64_w, i32_w]
          rfl
        refine done_ (by kernel_rfl) ?_
        have KC := Aside0.mk (blk_below (blk_drew KA.out) hb)
        clear hb e0 e1 e2 e3 e4 e5 e6 e7 z0 z1
        go_wp2_with fail
        go_roundg (gk - 1)
        case measure => have := HI.out; omega
        case rel => exact ⟨h + 1, j, by rw [NXT.out], rfl, ⟨by have := AH2.out; omega, by have := HI.out; omega, by have := HI.out; omega, by have := HI.out; have := HH.out; omega⟩, KC, BC⟩
      · have c1 : decide (cmpI pe.f0 t < 0) = false := decide_eq_false hcm
        have AH2 := Aside0.mk (show ¬ h < m from fun k => hcm (AH.out.2 k))
        clear hcm hij AH
        go_wp2_with fail
        refine start_ (n := 8) (S := fun w' => w'.cell? (ad.add (h * 8)) = some (.int .i64 pe.f0.f0) ∧ w'.cell? ⟨(ad.add (h * 8)).block, (ad.add (h * 8)).off + 1, none⟩ = some (.int .i64 pe.f0.f1) ∧ w'.cell? ⟨(ad.add (h * 8)).block, (ad.add (h * 8)).off + 2, none⟩ = some (.int .i64 pe.f1) ∧ w'.cell? ⟨(ad.add (h * 8)).block, (ad.add (h * 8)).off + 3, none⟩ = some (.int .i64 pe.f2) ∧ w'.cell? ⟨(ad.add (h * 8)).block, (ad.add (h * 8)).off + 4, none⟩ = some (.int .i64 pe.f3) ∧ w'.cell? ⟨(ad.add (h * 8)).block, (ad.add (h * 8)).off + 5, none⟩ = some (.int .i64 pe.f4) ∧ w'.cell? ⟨(ad.add (h * 8)).block, (ad.add (h * 8)).off + 6, none⟩ = some (.int .i64 pe.f5) ∧ w'.cell? ⟨(ad.add (h * 8)).block, (ad.add (h * 8)).off + 7, none⟩ = some (.int .i64 pe.f6) ∧ w'.cell? ⟨g1, 0, none⟩ = some (.int .i64 t.f0) ∧ w'.cell? ⟨g1, 1, none⟩ = some (.int .i64 t.f1)) (ds := []) #[false, false, false, false, false, false, false, false] (by kernel_rfl) rfl rfl ⟨e0, e1, e2, e3, e4, e5, e6, e7, z0, z1⟩ (fun hHeld => ?_)
        refine pure_ (i := 0) (N := some 24) (v := ?_) (a' := ?_) #[true, false, false, false, false, false, false, false] rfl rfl (by kernel_rfl) (fun _ _ _ h => h) (Or.inl ⟨by rfl, ?_⟩) ?_ ?_
        rotate_left
        · intro w'
          go_simp
          with_reducible rfl
        rotate_left
        · simp only [Act.put, List.setIfInBounds_toArray, List.set_cons_zero, List.set_cons_succ, i64_w, i32_w]
          rfl
        refine pure_ (i := 1) (N := some 25) (v := ?_) (a' := ?_) #[true, true, false, false, false, false, false, false] rfl rfl (by kernel_rfl) (fun _ _ _ h => h) (Or.inl ⟨by rfl, ?_⟩) ?_ ?_
        rotate_left
        · intro w'
          go_simp
          with_reducible rfl
        rotate_left
        · simp only [Act.put, List.setIfInBounds_toArray, List.set_cons_zero, List.set_cons_succ, i64_w, i32_w]
          rfl
        refine pure_ (i := 2) (N := some 26) (v := ?_) (a' := ?_) #[true, true, true, false, false, false, false, false] rfl rfl (by kernel_rfl) (fun _ _ _ h => h) (Or.inl ⟨by rfl, ?_⟩) ?_ ?_
        rotate_left
        · intro w'
          go_simp
          with_reducible rfl
        rotate_left
        · simp only [Act.put, List.setIfInBounds_toArray, List.set_cons_zero, List.set_cons_succ, i64_w, i32_w]
          rfl
        refine pure_ (i := 3) (N := some 27) (v := ?_) (a' := ?_) #[true, true, true, true, false, false, false, false] rfl rfl (by kernel_rfl) (fun _ _ _ h => h) (Or.inl ⟨by rfl, ?_⟩) ?_ ?_
        rotate_left
        · intro w'
          go_simp
          with_reducible rfl
        rotate_left
        · simp only [Act.put, List.setIfInBounds_toArray, List.set_cons_zero, List.set_cons_succ, i64_w, i32_w]
          rfl
        refine take_ (i := 4) (N := some 28) (v := ?_) (a' := ?_) #[true, true, true, true, true, false, false, false] rfl rfl (by kernel_rfl) (fun _ _ _ h => h) (Or.inl ⟨by rfl, ?_⟩) hHeld ?_ ?_
        rotate_left
        · rintro w' ⟨s0, s1, s2, s3, s4, s5, s6, s7, s8, s9⟩
          go_simp
          with_reducible rfl
        rotate_left
        · simp only [Act.put, List.setIfInBounds_toArray, List.set_cons_zero, List.set_cons_succ, i64_w, i32_w]
          rfl
        refine take_ (i := 5) (N := some 29) (v := ?_) (a' := ?_) #[true, true, true, true, true, true, false, false] rfl rfl (by kernel_rfl) (fun _ _ _ h => h) (Or.inl ⟨by rfl, ?_⟩) hHeld ?_ ?_
        rotate_left
        · rintro w' ⟨s0, s1, s2, s3, s4, s5, s6, s7, s8, s9⟩
          go_simp
          with_reducible rfl
        rotate_left
        · simp only [Act.put, List.setIfInBounds_toArray, List.set_cons_zero, List.set_cons_succ, i64_w, i32_w]
          rfl
        refine one_ (i := 6) (N := some 30) #[true, true, true, true, true, true, true, false] rfl rfl (by kernel_rfl) (by decide) (fun K hK => ?_)
        refine call_ 21 #[itV pe, idV t] (by rfl) rfl ?hr ?_
        (case hr => first | (go_simp; done) | (go_simp; rfl))
        with_reducible refine (byI_calls pe t wa.drew).mono ?_
        rintro x w3 ⟨rfl, hb⟩
        refine ⟨_, rfl, ?_⟩
        have BC := Aside0.mk (below_step (below_drew BA.out) hb)
        refine hK.out _ _ ⟨pw_cell_below hb e0, pw_cell_below hb e1, pw_cell_below hb e2, pw_cell_below hb e3, pw_cell_below hb e4, pw_cell_below hb e5, pw_cell_below hb e6, pw_cell_below hb e7, pw_cell_below hb z0, pw_cell_below hb z1⟩ (fun hHeld => ?_)
        clear hK K
        refine norm_ (a' := ?_) ?_ ?_
        rotate_left
        · show Act.put _ (some 30) _ = _
          simp only [Act.put, List.setIfInBounds_toArray, List.set_cons_zero, List.set_cons_succ, i64_w, i32_w]
          rfl
        refine pure_ (i := 7) (N := some 31) (v := ?_) (a' := ?_) #[true, true, true, true, true, true, true, true] rfl rfl (by kernel_rfl) (fun _ _ _ h => h) (Or.inl ⟨by rfl, ?_⟩) ?_ ?_
        rotate_left
        · intro w'
          go_simp
          with_reducible rfl
        rotate_left
        · simp only [Act.put, List.setIfInBounds_toArray, List.set_cons_zero, List.set_cons_succ, i64_w, i32_w]
          rfl
        refine done_ (by kernel_rfl) ?_
        have KC := Aside0.mk (blk_below (blk_drew KA.out) hb)
        clear hb e0 e1 e2 e3 e4 e5 e6 e7 z0 z1
        go_wp2_with fail
        go_roundg (gk - 1)
        case measure => have := HI.out; omega
        case rel => exact ⟨i, h, rfl, rfl, ⟨by have := HI.out; omega, by have := AH2.out; omega, by have := HI.out; have := HH.out; omega, by have := HI.out; have := HH.out; omega⟩, KC, BC⟩
    · have d1 : decide ((i : Int) < (j : Int)) = false := decide_eq_false (by omega)
      have d2 : (i < j) = False := eq_false hij
      have d3 : ((i : Int) < (j : Int)) = False := eq_false (by omega)
      obtain rfl : i = m := by have := HI.out; omega
      clear hij
      by_cases hin : i < n
      · have hinn : i < n := hin
        obtain ⟨ad, rfl, e0, e1, e2, e3, e4, e5, e6, e7⟩ := itC (Kd.C_below HC.out BA.out) (i := i) (HNN.out ▸ hin)
        have z0 : wa.cell? ⟨g1, 0, none⟩ = some (.int .i64 t.f0) := (blk_cell KA.out 0).trans rfl
        have z1 : wa.cell? ⟨g1, 1, none⟩ = some (.int .i64 t.f1) := (blk_cell KA.out 1).trans rfl
        obtain ⟨pe, hpe⟩ : ∃ pe, pe = l.getD i z33 := ⟨_, rfl⟩
        rw [← hpe] at e0 e1 e2 e3 e4 e5 e6 e7
        have ix1 : (0 : Int) ≤ (i : Int) := by omega
        have ix2 : (i : Int) < (n : Int) := by omega
        have ix3 := eq_true ix1; have ix4 := eq_true ix2
        have ix5 : decide ((i : Int) < (n : Int)) = true := decide_eq_true ix2
        have ix6 : decide (i < n) = true := decide_eq_true (by omega)
        have ix7 : (i < n) = True := eq_true (by omega)
        have RE := Aside0.mk (show r = decide (cmpI pe.f0 t = 0) by rw [TH.out, decide_eq_true hin, hpe]; simp)
        clear hpe hin hinn ix3 ix4
        obtain ⟨b, hb⟩ : ∃ b, decide (cmpI pe.f0 t = 0) = b := ⟨_, rfl⟩
        have RB := Aside0.mk (RE.out.trans hb)
        have hbe : (cmpI pe.f0 t == 0) = b := by rw [← hb]; exact (Bool.beq_eq_decide_eq _ _)
        have HBB := Aside0.mk hb
        clear hb RE
        go_wp2_with fail
        refine start_ (n := 16) (S := fun w' => w'.cell? (ad.add (i * 8)) = some (.int .i64 pe.f0.f0) ∧ w'.cell? ⟨(ad.add (i * 8)).block, (ad.add (i * 8)).off + 1, none⟩ = some (.int .i64 pe.f0.f1) ∧ w'.cell? ⟨(ad.add (i * 8)).block, (ad.add (i * 8)).off + 2, none⟩ = some (.int .i64 pe.f1) ∧ w'.cell? ⟨(ad.add (i * 8)).block, (ad.add (i * 8)).off + 3, none⟩ = some (.int .i64 pe.f2) ∧ w'.cell? ⟨(ad.add (i * 8)).block, (ad.add (i * 8)).off + 4, none⟩ = some (.int .i64 pe.f3) ∧ w'.cell? ⟨(ad.add (i * 8)).block, (ad.add (i * 8)).off + 5, none⟩ = some (.int .i64 pe.f4) ∧ w'.cell? ⟨(ad.add (i * 8)).block, (ad.add (i * 8)).off + 6, none⟩ = some (.int .i64 pe.f5) ∧ w'.cell? ⟨(ad.add (i * 8)).block, (ad.add (i * 8)).off + 7, none⟩ = some (.int .i64 pe.f6) ∧ w'.cell? ⟨g1, 0, none⟩ = some (.int .i64 t.f0) ∧ w'.cell? ⟨g1, 1, none⟩ = some (.int .i64 t.f1)) (ds := []) #[false, false, false, false, false, false, false, false, false, false, false, false, false, false, false, false] (by kernel_rfl) rfl rfl ⟨e0, e1, e2, e3, e4, e5, e6, e7, z0, z1⟩ (fun hHeld => ?_)
        refine pure_ (i := 0) (N := some 35) (v := ?_) (a' := ?_) #[true, false, false, false, false, false, false, false, false, false, false, false, false, false, false, false] rfl rfl (by kernel_rfl) (fun _ _ _ h => h) (Or.inl ⟨by rfl, ?_⟩) ?_ ?_
        rotate_left
        · intro w'
          go_simp
          with_reducible rfl
        rotate_left
        · simp only [Act.put, List.setIfInBounds_toArray, List.set_cons_zero, List.set_cons_succ, i64_w, i32_w]
          rfl
        refine pure_ (i := 1) (N := some 36) (v := ?_) (a' := ?_) #[true, true, false, false, false, false, false, false, false, false, false, false, false, false, false, false] rfl rfl (by kernel_rfl) (fun _ _ _ h => h) (Or.inl ⟨by rfl, ?_⟩) ?_ ?_
        rotate_left
        · intro w'
          go_simp
          with_reducible rfl
        rotate_left
        · simp only [Act.put, List.setIfInBounds_toArray, List.set_cons_zero, List.set_cons_succ, i64_w, i32_w]
          rfl
        refine pure_ (i := 2) (N := some 37) (v := ?_) (a' := ?_) #[true, true, true, false, false, false, false, false, false, false, false, false, false, false, false, false] rfl rfl (by kernel_rfl) (fun _ _ _ h => h) (Or.inl ⟨by rfl, ?_⟩) ?_ ?_
        rotate_left
        · intro w'
          go_simp
          with_reducible rfl
        rotate_left
        · simp only [Act.put, List.setIfInBounds_toArray, List.set_cons_zero, List.set_cons_succ, i64_w, i32_w]
          rfl
        refine pure_ (i := 3) (N := some 38) (v := ?_) (a' := ?_) #[true, true, true, true, false, false, false, false, false, false, false, false, false, false, false, false] rfl rfl (by kernel_rfl) (fun _ _ _ h => h) (Or.inl ⟨by rfl, ?_⟩) ?_ ?_
        rotate_left
        · intro w'
          go_simp
          with_reducible rfl
        rotate_left
        · simp only [Act.put, List.setIfInBounds_toArray, List.set_cons_zero, List.set_cons_succ, i64_w, i32_w]
          rfl
        refine pure_ (i := 4) (N := some 39) (v := ?_) (a' := ?_) #[true, true, true, true, true, false, false, false, false, false, false, false, false, false, false, false] rfl rfl (by kernel_rfl) (fun _ _ _ h => h) (Or.inl ⟨by rfl, ?_⟩) ?_ ?_
        rotate_left
        · intro w'
          go_simp
          with_reducible rfl
        rotate_left
        · simp only [Act.put, List.setIfInBounds_toArray, List.set_cons_zero, List.set_cons_succ, i64_w, i32_w]
          rfl
        refine pure_ (i := 5) (N := some 40) (v := ?_) (a' := ?_) #[true, true, true, true, true, true, false, false, false, false, false, false, false, false, false, false] rfl rfl (by kernel_rfl) (fun _ _ _ h => h) (Or.inl ⟨by rfl, ?_⟩) ?_ ?_
        rotate_left
        · intro w'
          go_simp
          with_reducible rfl
        rotate_left
        · simp only [Act.put, List.setIfInBounds_toArray, List.set_cons_zero, List.set_cons_succ, i64_w, i32_w]
          rfl
        refine pure_ (i := 6) (N := some 41) (v := ?_) (a' := ?_) #[true, true, true, true, true, true, true, false, false, false, false, false, false, false, false, false] rfl rfl (by kernel_rfl) (fun _ _ _ h => h) (Or.inl ⟨by rfl, ?_⟩) ?_ ?_
        rotate_left
        · intro w'
          go_simp
          with_reducible rfl
        rotate_left
        · simp only [Act.put, List.setIfInBounds_toArray, List.set_cons_zero, List.set_cons_succ, i64_w, i32_w]
          rfl
        refine pure_ (i := 7) (N := some 42) (v := ?_) (a' := ?_) #[true, true, true, true, true, true, true, true, false, false, false, false, false, false, false, false] rfl rfl (by kernel_rfl) (fun _ _ _ h => h) (Or.inl ⟨by rfl, ?_⟩) ?_ ?_
        rotate_left
        · intro w'
          go_simp
          with_reducible rfl
        rotate_left
        · simp only [Act.put, List.setIfInBounds_toArray, List.set_cons_zero, List.set_cons_succ, i64_w, i32_w]
          rfl
        refine pure_ (i := 8) (N := some 43) (v := ?_) (a' := ?_) #[true, true, true, true, true, true, true, true, true, false, false, false, false, false, false, false] rfl rfl (by kernel_rfl) (fun _ _ _ h => h) (Or.inl ⟨by rfl, ?_⟩) ?_ ?_
        rotate_left
        · intro w'
          go_simp
          with_reducible rfl
        rotate_left
        · simp only [Act.put, List.setIfInBounds_toArray, List.set_cons_zero, List.set_cons_succ, i64_w, i32_w]
          rfl
        refine take_ (i := 9) (N := some 44) (v := ?_) (a' := ?_) #[true, true, true, true, true, true, true, true, true, true, false, false, false, false, false, false] rfl rfl (by kernel_rfl) (fun _ _ _ h => h) (Or.inl ⟨by rfl, ?_⟩) hHeld ?_ ?_
        rotate_left
        · rintro w' ⟨s0, s1, s2, s3, s4, s5, s6, s7, s8, s9⟩
          go_simp
          with_reducible rfl
        rotate_left
        · simp only [Act.put, List.setIfInBounds_toArray, List.set_cons_zero, List.set_cons_succ, i64_w, i32_w]
          rfl
        refine take_ (i := 10) (N := some 45) (v := ?_) (a' := ?_) #[true, true, true, true, true, true, true, true, true, true, true, false, false, false, false, false] rfl rfl (by kernel_rfl) (fun _ _ _ h => h) (Or.inl ⟨by rfl, ?_⟩) hHeld ?_ ?_
        rotate_left
        · rintro w' ⟨s0, s1, s2, s3, s4, s5, s6, s7, s8, s9⟩
          go_simp
          with_reducible rfl
        rotate_left
        · simp only [Act.put, List.setIfInBounds_toArray, List.set_cons_zero, List.set_cons_succ, i64_w, i32_w]
          rfl
        refine one_ (i := 11) (N := some 46) #[true, true, true, true, true, true, true, true, true, true, true, true, false, false, false, false] rfl rfl (by kernel_rfl) (by decide) (fun K hK => ?_)
        refine call_ 21 #[itV pe, idV t] (by rfl) rfl ?hr ?_
        (case hr => first | (go_simp; done) | (go_simp; rfl))
        with_reducible refine (byI_calls pe t wa.drew).mono ?_
        rintro x w3 ⟨rfl, hb⟩
        refine ⟨_, rfl, ?_⟩
        have BC := Aside0.mk (below_step (below_drew BA.out) hb)
        refine hK.out _ _ ⟨pw_cell_below hb e0, pw_cell_below hb e1, pw_cell_below hb e2, pw_cell_below hb e3, pw_cell_below hb e4, pw_cell_below hb e5, pw_cell_below hb e6, pw_cell_below hb e7, pw_cell_below hb z0, pw_cell_below hb z1⟩ (fun hHeld => ?_)
        clear hK K
        refine norm_ (a' := ?_) ?_ ?_
        rotate_left
        · show Act.put _ (some 46) _ = _
          simp only [Act.put, List.setIfInBounds_toArray, List.set_cons_zero, List.set_cons_succ, i64_w, i32_w]
          rfl
        refine pure_ (i := 12) (N := some 47) (v := ?_) (a' := ?_) #[true, true, true, true, true, true, true, true, true, true, true, true, true, false, false, false] rfl rfl (by kernel_rfl) (fun _ _ _ h => h) (Or.inl ⟨by rfl, ?_⟩) ?_ ?_
        rotate_left
        · intro w'
          go_simp
          with_reducible rfl
        rotate_left
        · simp only [Act.put, List.setIfInBounds_toArray, List.set_cons_zero, List.set_cons_succ, i64_w, i32_w]
          rfl
        refine pure_ (i := 13) (N := some 48) (v := ?_) (a' := ?_) #[true, true, true, true, true, true, true, true, true, true, true, true, true, true, false, false] rfl rfl (by kernel_rfl) (fun _ _ _ h => h) (Or.inl ⟨by rfl, ?_⟩) ?_ ?_
        rotate_left
        · intro w'
          go_simp
          with_reducible rfl
        rotate_left
        · simp only [Act.put, List.setIfInBounds_toArray, List.set_cons_zero, List.set_cons_succ, i64_w, i32_w]
          rfl
        refine pure_ (i := 14) (N := some 6) (v := ?_) (a' := ?_) #[true, true, true, true, true, true, true, true, true, true, true, true, true, true, true, false] rfl rfl (by kernel_rfl) (fun _ _ _ h => h) (Or.inl ⟨by rfl, ?_⟩) ?_ ?_
        rotate_left
        · intro w'
          go_simp
          with_reducible rfl
        rotate_left
        · simp only [Act.put, List.setIfInBounds_toArray, List.set_cons_zero, List.set_cons_succ, i64_w, i32_w]
          rfl
        refine pure_ (i := 15) (N := some 7) (v := ?_) (a' := ?_) #[true, true, true, true, true, true, true, true, true, true, true, true, true, true, true, true] rfl rfl (by kernel_rfl) (fun _ _ _ h => h) (Or.inl ⟨by rfl, ?_⟩) ?_ ?_
        rotate_left
        · intro w'
          go_simp
          with_reducible rfl
        rotate_left
        · simp only [Act.put, List.setIfInBounds_toArray, List.set_cons_zero, List.set_cons_succ, i64_w, i32_w]
          rfl
        refine done_ (by kernel_rfl) ?_
        clear hb e0 e1 e2 e3 e4 e5 e6 e7 z0 z1
        go_wp2_with fail
        go_ret2
        exact ⟨by rw [RB.out]; rfl, BC.out⟩
      · have ix6 : decide (i < n) = false := decide_eq_false hin
        have ix5 : decide ((i : Int) < (n : Int)) = false := decide_eq_false (by omega)
        have ix7 : (i < n) = False := eq_false hin
        have RB := Aside0.mk (show r = false by rw [TH.out, decide_eq_false hin]; rfl)
        clear hin
        go_wp2_with fail
        refine start_ (n := 16) (S := fun w' => True) (ds := []) #[false, false, false, false, false, false, false, false, false, false, false, false, false, false, false, false] (by kernel_rfl) rfl rfl trivial (fun hHeld => ?_)
        refine pure_ (i := 0) (N := some 35) (v := ?_) (a' := ?_) #[true, false, false, false, false, false, false, false, false, false, false, false, false, false, false, false] rfl rfl (by kernel_rfl) (fun _ _ _ h => h) (Or.inl ⟨by rfl, ?_⟩) ?_ ?_
        rotate_left
        · intro w'
          go_simp
          with_reducible rfl
        rotate_left
        · simp only [Act.put, List.setIfInBounds_toArray, List.set_cons_zero, List.set_cons_succ, i64_w, i32_w]
          rfl
        refine pure_ (i := 1) (N := some 36) (v := ?_) (a' := ?_) #[true, true, false, false, false, false, false, false, false, false, false, false, false, false, false, false] rfl rfl (by kernel_rfl) (fun _ _ _ h => h) (Or.inl ⟨by rfl, ?_⟩) ?_ ?_
        rotate_left
        · intro w'
          go_simp
          with_reducible rfl
        rotate_left
        · simp only [Act.put, List.setIfInBounds_toArray, List.set_cons_zero, List.set_cons_succ, i64_w, i32_w]
          rfl
        refine pure_ (i := 2) (N := some 37) (v := ?_) (a' := ?_) #[true, true, true, false, false, false, false, false, false, false, false, false, false, false, false, false] rfl rfl (by kernel_rfl) (fun _ _ _ h => h) (Or.inl ⟨by rfl, ?_⟩) ?_ ?_
        rotate_left
        · intro w'
          go_simp
          with_reducible rfl
        rotate_left
        · simp only [Act.put, List.setIfInBounds_toArray, List.set_cons_zero, List.set_cons_succ, i64_w, i32_w]
          rfl
        refine pure_ (i := 3) (N := some 38) (v := ?_) (a' := ?_) #[true, true, true, true, false, false, false, false, false, false, false, false, false, false, false, false] rfl rfl (by kernel_rfl) (fun _ _ _ h => h) (Or.inl ⟨by rfl, ?_⟩) ?_ ?_
        rotate_left
        · intro w'
          go_simp
          with_reducible rfl
        rotate_left
        · simp only [Act.put, List.setIfInBounds_toArray, List.set_cons_zero, List.set_cons_succ, i64_w, i32_w]
          rfl
        refine pure_ (i := 4) (N := some 39) (v := ?_) (a' := ?_) #[true, true, true, true, true, false, false, false, false, false, false, false, false, false, false, false] rfl rfl (by kernel_rfl) (fun _ _ _ h => h) (Or.inl ⟨by rfl, ?_⟩) ?_ ?_
        rotate_left
        · intro w'
          go_simp
          with_reducible rfl
        rotate_left
        · simp only [Act.put, List.setIfInBounds_toArray, List.set_cons_zero, List.set_cons_succ, i64_w, i32_w]
          rfl
        refine pure_ (i := 5) (N := some 40) (v := undef) (a' := ?_) #[true, true, true, true, true, true, false, false, false, false, false, false, false, false, false, false] rfl rfl (by kernel_rfl) (fun _ _ _ h => h) (Or.inr ⟨by rfl, rfl⟩) ?_ ?_
        rotate_left
        · simp only [Act.put, List.setIfInBounds_toArray, List.set_cons_zero, List.set_cons_succ, i64_w, i32_w]
          rfl
        refine pure_ (i := 6) (N := some 41) (v := undef) (a' := ?_) #[true, true, true, true, true, true, true, false, false, false, false, false, false, false, false, false] rfl rfl (by kernel_rfl) (fun _ _ _ h => h) (Or.inr ⟨by rfl, rfl⟩) ?_ ?_
        rotate_left
        · simp only [Act.put, List.setIfInBounds_toArray, List.set_cons_zero, List.set_cons_succ, i64_w, i32_w]
          rfl
        refine pure_ (i := 7) (N := some 42) (v := undef) (a' := ?_) #[true, true, true, true, true, true, true, true, false, false, false, false, false, false, false, false] rfl rfl (by kernel_rfl) (fun _ _ _ h => h) (Or.inr ⟨by rfl, rfl⟩) ?_ ?_
        rotate_left
        · simp only [Act.put, List.setIfInBounds_toArray, List.set_cons_zero, List.set_cons_succ, i64_w, i32_w]
          rfl
        refine pure_ (i := 8) (N := some 43) (v := undef) (a' := ?_) #[true, true, true, true, true, true, true, true, true, false, false, false, false, false, false, false] rfl rfl (by kernel_rfl) (fun _ _ _ h => h) (Or.inr ⟨by rfl, rfl⟩) ?_ ?_
        rotate_left
        · simp only [Act.put, List.setIfInBounds_toArray, List.set_cons_zero, List.set_cons_succ, i64_w, i32_w]
          rfl
        refine pure_ (i := 9) (N := some 44) (v := undef) (a' := ?_) #[true, true, true, true, true, true, true, true, true, true, false, false, false, false, false, false] rfl rfl (by kernel_rfl) (fun _ _ _ h => h) (Or.inr ⟨by rfl, rfl⟩) ?_ ?_
        rotate_left
        · simp only [Act.put, List.setIfInBounds_toArray, List.set_cons_zero, List.set_cons_succ, i64_w, i32_w]
          rfl
        refine pure_ (i := 10) (N := some 45) (v := undef) (a' := ?_) #[true, true, true, true, true, true, true, true, true, true, true, false, false, false, false, false] rfl rfl (by kernel_rfl) (fun _ _ _ h => h) (Or.inr ⟨by rfl, rfl⟩) ?_ ?_
        rotate_left
        · simp only [Act.put, List.setIfInBounds_toArray, List.set_cons_zero, List.set_cons_succ, i64_w, i32_w]
          rfl
        refine pure_ (i := 11) (N := some 46) (v := undef) (a' := ?_) #[true, true, true, true, true, true, true, true, true, true, true, true, false, false, false, false] rfl rfl (by kernel_rfl) (fun _ _ _ h => h) (Or.inr ⟨by rfl, rfl⟩) ?_ ?_
        rotate_left
        · simp only [Act.put, List.setIfInBounds_toArray, List.set_cons_zero, List.set_cons_succ, i64_w, i32_w]
          rfl
        refine pure_ (i := 12) (N := some 47) (v := undef) (a' := ?_) #[true, true, true, true, true, true, true, true, true, true, true, true, true, false, false, false] rfl rfl (by kernel_rfl) (fun _ _ _ h => h) (Or.inr ⟨by rfl, rfl⟩) ?_ ?_
        rotate_left
        · simp only [Act.put, List.setIfInBounds_toArray, List.set_cons_zero, List.set_cons_succ, i64_w, i32_w]
          rfl
        refine pure_ (i := 13) (N := some 48) (v := ?_) (a' := ?_) #[true, true, true, true, true, true, true, true, true, true, true, true, true, true, false, false] rfl rfl (by kernel_rfl) (fun _ _ _ h => h) (Or.inl ⟨by rfl, ?_⟩) ?_ ?_
        rotate_left
        · intro w'
          go_simp
          with_reducible rfl
        rotate_left
        · simp only [Act.put, List.setIfInBounds_toArray, List.set_cons_zero, List.set_cons_succ, i64_w, i32_w]
          rfl
        refine pure_ (i := 14) (N := some 6) (v := ?_) (a' := ?_) #[true, true, true, true, true, true, true, true, true, true, true, true, true, true, true, false] rfl rfl (by kernel_rfl) (fun _ _ _ h => h) (Or.inl ⟨by rfl, ?_⟩) ?_ ?_
        rotate_left
        · intro w'
          go_simp
          with_reducible rfl
        rotate_left
        · simp only [Act.put, List.setIfInBounds_toArray, List.set_cons_zero, List.set_cons_succ, i64_w, i32_w]
          rfl
        refine pure_ (i := 15) (N := some 7) (v := ?_) (a' := ?_) #[true, true, true, true, true, true, true, true, true, true, true, true, true, true, true, true] rfl rfl (by kernel_rfl) (fun _ _ _ h => h) (Or.inl ⟨by rfl, ?_⟩) ?_ ?_
        rotate_left
        · intro w'
          go_simp
          with_reducible rfl
        rotate_left
        · simp only [Act.put, List.setIfInBounds_toArray, List.set_cons_zero, List.set_cons_succ, i64_w, i32_w]
          rfl
        refine done_ (by kernel_rfl) ?_
        go_wp2_with fail
        go_ret2
        exact ⟨by rw [RB.out]; rfl, below_drew BA.out⟩
end Go.Proofs.Ytianljjmnpdkcaa.M
