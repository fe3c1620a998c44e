/-
  WholeLife, plainly: what an item may be, each act on it, what is open in a book, and what a vector of two comes to.
-/
import Derived.Test.YtianljjmnpdkcaaOBook2
import Derived.Test.YtianljjmnpdkcaaPOne
import Derived.Test.YtianljjmnpdkcaaMx4
import Derived.Test.YtianljjmnpdkcaaMx5
import Derived.Test.YtianljjmnpdkcaaMx6
namespace Go.Proofs.Ytianljjmnpdkcaa.M
open Go.RowKit Go.Proofs.YtianljjmnpdkcaaW.PrintWords
set_option linter.unusedVariables false
set_option linter.unusedSimpArgs false
/-- an item that can be -/
def Fit (x : S33) : Prop :=
  (0 ≤ x.f0.f0 ∧ x.f0.f0 ≤ 7 ∧ 0 ≤ x.f1 ∧ x.f1 ≤ 7 ∧ x.f1 ≠ x.f0.f0 ∧ 1 ≤ x.f0.f1 ∧ x.f0.f1 ≤ 1048576 ∧ 0 ≤ x.f2 ∧ x.f2 ≤ 7 ∧ 1 ≤ x.f3 ∧ x.f3 ≤ 1125899906842624 ∧ 0 ≤ x.f4 ∧ x.f4 ≤ 3 ∧ 1 ≤ x.f5 ∧ x.f5 ≤ 5 ∧ 0 ≤ x.f6 ∧ x.f6 ≤ 1048576) ∧ ¬ ((x.f6 ≠ 0 ∧ x.f5 ≠ 3 ∧ x.f5 ≠ 5) ∨ (x.f6 = 0 ∧ x.f5 = 5))
def chkS (s n b c a r st cy : Int) : Int :=
  if 0 ≤ s ∧ s ≤ 7 ∧ 0 ≤ b ∧ b ≤ 7 ∧ b ≠ s ∧ 1 ≤ n ∧ n ≤ 1048576 ∧ 0 ≤ c ∧ c ≤ 7 ∧ 1 ≤ a ∧ a ≤ 1125899906842624 ∧ 0 ≤ r ∧ r ≤ 3 ∧ 1 ≤ st ∧ st ≤ 5 ∧ 0 ≤ cy ∧ cy ≤ 1048576 then
    (if (cy ≠ 0 ∧ st ≠ 3 ∧ st ≠ 5) ∨ (cy = 0 ∧ st = 5) then 90 else 0) else 1
theorem check_ev (s n b c a r st cy : Int) : item_Check.f 12 s n b c a r st cy = some (chkS s n b c a r st cy) := by
  simp only [item_Check.f, item_Check.j0, item_Check.j1, item_Check.j2, item_Check.j3, item_Check.j4, item_Check.j5, item_Check.j6, item_Check.j7, item_Check.j8, chkS, decide_eq_true_eq, beq_iff_eq, bne_iff_ne, if_true, Bool.false_eq_true, if_false]
  grind (splits := 60)
/-- the check's answer -/
def chkI (x : S33) : Int := chkS x.f0.f0 x.f0.f1 x.f1 x.f2 x.f3 x.f4 x.f5 x.f6
theorem chkI_fit (x : S33) : chkI x = 0 ↔ Fit x := by
  unfold chkI chkS Fit
  split
  · rename_i h
    split
    · rename_i h2; exact ⟨fun e => by omega, fun e => absurd h2 e.2⟩
    · rename_i h2; exact ⟨fun _ => ⟨h, h2⟩, fun _ => rfl⟩
  · rename_i h; exact ⟨fun e => by omega, fun e => absurd e.1 h⟩
theorem fit_ok {x : S33} (h : Fit x) : ChkOK x := ⟨12, by rw [check_ev]; exact congrArg some ((chkI_fit x).2 h)⟩
/-- nothing more happens to it -/
def overI (x : S33) : Bool := decide (x.f5 = 4) || (x.f5 == 5)
theorem over_f (x : S33) : item_Over.f x.f0.f0 x.f0.f1 x.f1 x.f2 x.f3 x.f4 x.f5 x.f6 = some (overI x) := by
  unfold item_Over.f overI
  by_cases h : x.f5 = 4 <;> simp [h]
abbrev tupI (y : S33) (e : Int) : Int × Int × Int × Int × Int × Int × Int × Int × Int := (y.f0.f0, y.f0.f1, y.f1, y.f2, y.f3, y.f4, y.f5, y.f6, e)
/-- what an act leaves: refused, it is as it was; done, it was not over -/
structure Acted (x y : S33) (e : Int) : Prop where
  no : e ≠ 0 → y = x
  yes : e = 0 → overI x = false
  fit : Fit y
  id : y.f0 = x.f0
  buyer : y.f1 = x.f1
theorem no_act {x : S33} (h : Fit x) {e : Int} (he : e ≠ 0) : Acted x x e := ⟨fun _ => rfl, fun h0 => absurd h0 he, h, rfl, rfl⟩
theorem step_act {x : S33} (h : Fit x) (h0 : x.f6 = 0) (st : Int) (h1 : 1 ≤ st) (h2 : st ≤ 4) (h3 : x.f5 ≤ 2) : Acted x { x with f5 := st } 0 := by
  refine ⟨fun e => absurd rfl e, fun _ => ?_, ?_, rfl, rfl⟩
  · unfold overI; simp; omega
  · obtain ⟨g, g2⟩ := h
    exact ⟨by dsimp only; omega, by dsimp only; omega⟩
theorem cy0 {x : S33} (h : Fit x) (h3 : x.f5 ≤ 2) : x.f6 = 0 := by
  obtain ⟨g, g2⟩ := h
  omega
theorem dispute_ev {x : S33} (h : Fit x) : ∃ y e, item_Dispute.f x.f0.f0 x.f0.f1 x.f1 x.f2 x.f3 x.f4 x.f5 x.f6 = some (tupI y e) ∧ Acted x y e := by
  unfold item_Dispute.f item_step.f
  by_cases hs : x.f5 = 1
  · rw [if_pos hs]; exact ⟨{ x with f5 := 2 }, 0, rfl, step_act h (cy0 h (by omega)) 2 (by omega) (by omega) (by omega)⟩
  · rw [if_neg hs]; exact ⟨x, 90, rfl, no_act h (by decide)⟩
theorem agree_ev {x : S33} (h : Fit x) : ∃ y e, item_Agree.f x.f0.f0 x.f0.f1 x.f1 x.f2 x.f3 x.f4 x.f5 x.f6 = some (tupI y e) ∧ Acted x y e := by
  unfold item_Agree.f item_step.f
  by_cases hs : x.f5 = 1
  · rw [if_pos hs]; exact ⟨{ x with f5 := 3 }, 0, rfl, step_act h (cy0 h (by omega)) 3 (by omega) (by omega) (by omega)⟩
  · rw [if_neg hs]; exact ⟨x, 90, rfl, no_act h (by decide)⟩
theorem cancel_ev {x : S33} (h : Fit x) : ∃ y e, item_Cancel.f x.f0.f0 x.f0.f1 x.f1 x.f2 x.f3 x.f4 x.f5 x.f6 = some (tupI y e) ∧ Acted x y e := by
  unfold item_Cancel.f item_step.f
  by_cases hs : x.f5 = 2
  · rw [if_pos hs]; exact ⟨{ x with f5 := 4 }, 0, rfl, step_act h (cy0 h (by omega)) 4 (by omega) (by omega) (by omega)⟩
  · rw [if_neg hs]; exact ⟨x, 90, rfl, no_act h (by decide)⟩
theorem adjust_ev {x : S33} (h : Fit x) (a : Int) : ∃ y e, item_Adjust.f 2 x.f0.f0 x.f0.f1 x.f1 x.f2 x.f3 x.f4 x.f5 x.f6 a = some (tupI y e) ∧ Acted x y e := by
  unfold item_Adjust.f
  by_cases hs : x.f5 = 2
  · rw [if_pos hs]
    have hc := cy0 h (by omega)
    have h5 := h.1
    by_cases h1 : a < 1
    · rw [if_pos h1, item_Adjust.j0, if_pos rfl]; exact ⟨x, 1, rfl, no_act h (by decide)⟩
    · rw [if_neg h1, item_Adjust.j0]
      by_cases h2 : a > 1125899906842624
      · rw [if_pos (decide_eq_true h2)]; exact ⟨x, 1, rfl, no_act h (by decide)⟩
      · rw [if_neg (by simpa using h2)]
        by_cases h3 : x.f4 = 3
        · rw [if_pos h3]; exact ⟨x, 91, rfl, no_act h (by decide)⟩
        · rw [if_neg h3, show wrap64 (x.f4 + 1) = x.f4 + 1 by unfold wrap64; omega]
          refine ⟨{ x with f3 := a, f4 := x.f4 + 1, f5 := 1 }, 0, rfl, fun e => absurd rfl e, fun _ => ?_, ?_, rfl, rfl⟩
          · unfold overI; simp; omega
          · exact ⟨by dsimp only; omega, by dsimp only; omega⟩
  · rw [if_neg hs]; exact ⟨x, 90, rfl, no_act h (by decide)⟩
theorem lock_ev {x : S33} (h : Fit x) (a : Int) : ∃ y e, item_Lock.f 2 x.f0.f0 x.f0.f1 x.f1 x.f2 x.f3 x.f4 x.f5 x.f6 a = some (tupI y e) ∧ Acted x y e := by
  simp only [item_Lock.f, item_Lock.j0]
  by_cases hs : x.f5 = 3
  · rw [if_pos hs]
    have h5 := h.1
    by_cases hc : x.f6 = 0
    · have hc' : (x.f6 != 0) = false := by simp [hc]
      rw [hc', if_neg (by decide)]
      by_cases h1 : a < 1
      · simp only [if_pos h1, if_true]; exact ⟨x, 1, rfl, no_act h (by decide)⟩
      · by_cases h2 : a > 1048576
        · simp only [if_neg h1, if_pos h2]; exact ⟨x, 1, rfl, no_act h (by decide)⟩
        · simp only [if_neg h1, if_neg h2]
          refine ⟨{ x with f6 := a }, 0, rfl, fun e => absurd rfl e, fun _ => ?_, ?_, rfl, rfl⟩
          · unfold overI; simp; omega
          · exact ⟨by dsimp only; omega, by dsimp only; omega⟩
    · have hc' : (x.f6 != 0) = true := bne_iff_ne.mpr hc
      rw [hc', if_pos rfl]; exact ⟨x, 90, rfl, no_act h (by decide)⟩
  · rw [if_neg hs, if_pos trivial]; exact ⟨x, 90, rfl, no_act h (by decide)⟩
theorem free_ev {x : S33} (h : Fit x) : ∃ y e, item_Free.f x.f0.f0 x.f0.f1 x.f1 x.f2 x.f3 x.f4 x.f5 x.f6 = some (tupI y e) ∧ Acted x y e := by
  unfold item_Free.f item_locked.f
  by_cases hs : x.f5 = 3
  · rw [if_pos hs, Option.bind_some]
    by_cases hc : (x.f6 != 0) = true
    · rw [if_pos hc]
      refine ⟨{ x with f6 := 0 }, 0, rfl, fun e => absurd rfl e, fun _ => ?_, ?_, rfl, rfl⟩
      · unfold overI; simp; omega
      · have h5 := h.1; exact ⟨by dsimp only; omega, by dsimp only; omega⟩
    · rw [if_neg hc]; exact ⟨x, 90, rfl, no_act h (by decide)⟩
  · rw [if_neg hs, Option.bind_some, if_neg (by decide)]; exact ⟨x, 90, rfl, no_act h (by decide)⟩
theorem settle_ev {x : S33} (h : Fit x) : ∃ y e, item_Settle.f x.f0.f0 x.f0.f1 x.f1 x.f2 x.f3 x.f4 x.f5 x.f6 = some (tupI y e) ∧ Acted x y e := by
  unfold item_Settle.f item_locked.f item_step.f
  by_cases hs : x.f5 = 3
  · rw [if_pos hs, Option.bind_some]
    by_cases hc : (x.f6 != 0) = true
    · rw [if_pos hc, if_pos hs]
      refine ⟨{ x with f5 := 5 }, 0, rfl, fun e => absurd rfl e, fun _ => ?_, ?_, rfl, rfl⟩
      · unfold overI; simp; omega
      · have h5 := h.1; have h6 := bne_iff_ne.mp hc; exact ⟨by dsimp only; omega, by dsimp only; omega⟩
    · rw [if_neg hc]; exact ⟨x, 90, rfl, no_act h (by decide)⟩
  · rw [if_neg hs, Option.bind_some, if_neg (by decide)]; exact ⟨x, 90, rfl, no_act h (by decide)⟩
/-- what an item is to an entity, in a currency, while it is open -/
def openE (me c : Int) (x : S33) : Option Int := if x.f5 = 3 ∧ x.f2 = c then some (if x.f1 = me then -x.f3 else x.f3) else none
def opens (me c : Int) (l : List S33) : List Int := l.filterMap (openE me c)
theorem opens_in {me c : Int} {l : List S33} (hf : ∀ x ∈ l, Fit x) : ∀ a ∈ opens me c l, -1125899906842624 ≤ a ∧ a ≤ 1125899906842624 := by
  intro a ha
  obtain ⟨x, hx, he⟩ := List.mem_filterMap.1 ha
  have h := (hf x hx).1
  unfold openE at he
  split at he
  · injection he with he
    split at he <;> omega
  · cases he
theorem opens_len (me c : Int) (l : List S33) : (opens me c l).length ≤ l.length := List.length_filterMap_le _ _
theorem sum_bound {l : List Int} {b : Int} (h : ∀ a ∈ l, -b ≤ a ∧ a ≤ b) : -(b * l.length) ≤ l.sum ∧ l.sum ≤ b * l.length := by
  induction l with
  | nil => simp
  | cons a r ih =>
    have h1 := h a (List.mem_cons_self ..)
    have h2 := ih (fun x hx => h x (List.mem_cons_of_mem _ hx))
    rw [List.sum_cons, List.length_cons]
    have e : b * ((r.length + 1 : Nat) : Int) = b * (r.length : Int) + b := by rw [Int.natCast_add, Int.mul_add]; simp
    rw [e]
    omega
theorem opens_sum {me c : Int} {l : List S33} (hf : ∀ x ∈ l, Fit x) (hl : l.length ≤ 1024) : In64 (opens me c l).sum ∧ In64 (-(opens me c l).sum) := by
  have h1 := sum_bound (opens_in (me := me) (c := c) hf)
  have h2 := opens_len me c l
  have h3 : (1125899906842624 : Int) * ((opens me c l).length : Int) ≤ 1125899906842624 * 1024 := Int.mul_le_mul_of_nonneg_left (by omega) (by omega)
  unfold In64
  omega
theorem opens_neg {c : Int} {l : List S33} (hf : ∀ x ∈ l, Fit x) (hp : ∀ x ∈ l, x.f0.f0 + x.f1 = 1) : (opens 1 c l).sum = -(opens 0 c l).sum := by
  induction l with
  | nil => rfl
  | cons x r ih =>
    have h1 := (hf x (List.mem_cons_self ..)).1
    have h2 := hp x (List.mem_cons_self ..)
    have h3 := ih (fun y hy => hf y (List.mem_cons_of_mem _ hy)) (fun y hy => hp y (List.mem_cons_of_mem _ hy))
    unfold opens at h3 ⊢
    rw [List.filterMap_cons, List.filterMap_cons]
    unfold openE at h3 ⊢
    by_cases hc : x.f5 = 3 ∧ x.f2 = c
    · rw [if_pos hc, if_pos hc]
      simp only
      rw [List.sum_cons, List.sum_cons, h3]
      have h4 : x.f1 = 0 ∨ x.f1 = 1 := by omega
      rcases h4 with h4 | h4
      · rw [h4, if_neg (by decide), if_pos rfl]; omega
      · rw [h4, if_pos rfl, if_neg (by decide)]; omega
    · rw [if_neg hc, if_neg hc]
      exact h3
theorem rdI (l : List S33) (i : Nat) : rd_T33 l (i : Int) = l.getD i z33 := by unfold rd_T33; rw [Int.toNat_natCast]
theorem drop_get {l : List S33} {i : Nat} (h : i < l.length) : l.drop i = l.getD i z33 :: l.drop (i + 1) := by
  rw [List.drop_eq_getElem_cons h, List.getD_eq_getElem?_getD, List.getElem?_eq_getElem h]; rfl
theorem opens_some {me c a : Int} {x : S33} {r : List S33} (h : openE me c x = some a) : opens me c (x :: r) = a :: opens me c r := by
  unfold opens; rw [List.filterMap_cons, h]
theorem opens_none {me c : Int} {x : S33} {r : List S33} (h : openE me c x = none) : opens me c (x :: r) = opens me c r := by
  unfold opens; rw [List.filterMap_cons, h]
theorem acc_more {acc : List Int} {v : Int} (h : ∀ a ∈ acc, In64 a) (hv : In64 v) : ∀ a ∈ acc ++ [v], In64 a := by
  intro a ha
  rcases List.mem_append.1 ha with ha | ha
  · exact h a ha
  · rw [List.mem_singleton.1 ha]; exact hv
theorem sum_more (acc : List Int) (v s : Int) : (acc ++ [v]).sum + s = acc.sum + (v + s) := by
  rw [List.sum_append, List.sum_singleton, Int.add_assoc]
theorem next_ {i : Nat} (h : i < 1024) : wrap64 ((i : Int) + 1) = ((i + 1 : Nat) : Int) := by unfold wrap64; omega
theorem amt_ {x : S33} (h : Fit x) : wrap64 (-x.f3) = -x.f3 ∧ In64 x.f3 ∧ In64 (-x.f3) := by
  have h1 : 1 ≤ x.f3 := h.1.2.2.2.2.2.2.2.2.2.1
  have h2 : x.f3 ≤ 1125899906842624 := h.1.2.2.2.2.2.2.2.2.2.2.1
  clear h
  unfold In64 wrap64
  omega
set_option maxHeartbeats 4000000 in
theorem open_loop {me c o : Int} {l : List S33} (lo : List S103) (ho : 0 ≤ o) (hf : ∀ x ∈ l, Fit x) (hp : ∀ x ∈ l, x.f0.f0 = o ∨ x.f1 = o) (hl : l.length ≤ 1024) :
    ∀ (m i K : Nat) (acc : List Int), i + m = l.length → acc.length ≤ i → (∀ a ∈ acc, In64 a) → 3 * m + acc.length + 3 ≤ K →
      book_Book_Open.l0 K c o acc l (l.length : Int) (i : Int) me l lo = some (fit (acc.sum + (opens me c (l.drop i)).sum)) := by
  intro m
  induction m with
  | zero =>
    intro i K acc hi hal hin hK
    obtain ⟨K, rfl⟩ : ∃ k, K = k + 1 := ⟨K - 1, by omega⟩
    rw [book_Book_Open.l0, if_neg (by omega), List.drop_of_length_le (by omega)]
    have hs := at_rounds (money_Sum.mono acc) (k' := K) (by omega) (sum_f acc (by omega) hin)
    have e0 : (opens me c ([] : List S33)).sum = 0 := rfl
    rw [hs, Option.bind_some, e0, Int.add_zero]
  | succ m ih =>
    intro i K acc hi hal hin hK
    obtain ⟨K, rfl⟩ : ∃ k, K = k + 1 := ⟨K - 1, by omega⟩
    obtain ⟨K, rfl⟩ : ∃ k, K = k + 1 := ⟨K - 1, by omega⟩
    have hlt : i < l.length := by omega
    obtain ⟨x, hx⟩ : ∃ x, x = l.getD i z33 := ⟨_, rfl⟩
    have hxm : x ∈ l := by rw [hx, List.getD_eq_getElem?_getD, List.getElem?_eq_getElem hlt]; exact List.getElem_mem hlt
    have en := next_ (Nat.lt_of_lt_of_le hlt hl)
    rw [drop_get hlt, ← hx]
    have g1 : (i : Int) < (l.length : Int) := by omega
    have g0 : (0 : Int) ≤ (i : Int) := by omega
    rw [book_Book_Open.l0, if_pos g1, if_pos g0, if_pos g1, rdI, ← hx]
    have gl : acc.length < 17592186044416 := by omega
    have hw := (amt_ (hf x hxm)).1
    have hstop : ∀ b : Bool, b = false → book_Book_Open.j1 (K + 1) c o acc l (l.length : Int) (i : Int) b me l lo x.f0.f0 x.f0.f1 x.f1 x.f2 x.f3 x.f4 x.f5 x.f6 = (if x.f1 = me then book_Book_Open.l0 K c o (acc ++ [-x.f3]) l (l.length : Int) ((i + 1 : Nat) : Int) me l lo else book_Book_Open.l0 K c o (acc ++ [x.f3]) l (l.length : Int) ((i + 1 : Nat) : Int) me l lo) := by
      rintro b rfl
      rw [book_Book_Open.j1, if_neg (by decide), if_pos gl, if_pos gl, en, hw]
    have hnext : ∀ v : Int, In64 v → book_Book_Open.l0 K c o (acc ++ [v]) l (l.length : Int) ((i + 1 : Nat) : Int) me l lo = some (fit (acc.sum + (v + (opens me c (l.drop (i + 1))).sum))) := by
      intro v hv
      rw [ih (i + 1) K _ (by omega) (by rw [List.length_append, List.length_singleton]; omega) (acc_more hin hv) (by rw [List.length_append, List.length_singleton]; omega), sum_more]
    have h3 := (amt_ (hf x hxm)).2.1
    have h3n := (amt_ (hf x hxm)).2.2
    by_cases hc : x.f5 = 3 ∧ x.f2 = c
    · have hob : book_open.f x.f0.f0 x.f0.f1 x.f1 x.f2 x.f3 x.f4 x.f5 x.f6 c = some true := by
        unfold book_open.f; rw [if_pos hc.1, hc.2]; simp
      have hoe : openE me c x = some (if x.f1 = me then -x.f3 else x.f3) := if_pos hc
      rw [hob, Option.bind_some, if_pos rfl, if_pos ho, opens_some hoe, List.sum_cons]
      have hgo : (if x.f1 = me then book_Book_Open.l0 K c o (acc ++ [-x.f3]) l (l.length : Int) ((i + 1 : Nat) : Int) me l lo else book_Book_Open.l0 K c o (acc ++ [x.f3]) l (l.length : Int) ((i + 1 : Nat) : Int) me l lo) = some (fit (acc.sum + ((if x.f1 = me then -x.f3 else x.f3) + (opens me c (l.drop (i + 1))).sum))) := by
        by_cases hb : x.f1 = me
        · rw [if_pos hb, if_pos hb, hnext _ h3n]
        · rw [if_neg hb, if_neg hb, hnext _ h3]
      by_cases hs : x.f0.f0 = o
      · rw [if_pos hs, hstop false rfl, hgo]
      · rw [if_neg hs, hstop _ (by have := (hp x hxm).resolve_left hs; simp [this]), hgo]
    · have hob : book_open.f x.f0.f0 x.f0.f1 x.f1 x.f2 x.f3 x.f4 x.f5 x.f6 c = some false := by
        unfold book_open.f
        by_cases h3 : x.f5 = 3
        · rw [if_pos h3]; have h4 : ¬ x.f2 = c := fun e => hc ⟨h3, e⟩; simp [h4]
        · rw [if_neg h3]
      have hoe : openE me c x = none := if_neg hc
      rw [hob, Option.bind_some, if_neg (by decide), opens_none hoe, book_Book_Open.j1, if_pos rfl, en]
      exact ih (i + 1) K acc (by omega) (by omega) hin (by omega)
theorem open_f {me c o : Int} {l : List S33} (lo : List S103) (ho : 0 ≤ o) (hf : ∀ x ∈ l, Fit x) (hp : ∀ x ∈ l, x.f0.f0 = o ∨ x.f1 = o) (hl : l.length ≤ 1024) :
    book_Book_Open.f (3 * l.length + 3) me l lo c o = some ((opens me c l).sum, 0) := by
  have h := open_loop (me := me) (c := c) lo ho hf hp hl l.length 0 (3 * l.length + 3) [] (by omega) (by simp) (by simp) (by simp)
  rw [List.drop_zero, List.sum_nil, Int.zero_add, fit_in (opens_sum hf hl).1] at h
  exact h
theorem total_two {c n m : Int} (hn : In64 n) (hm : In64 m) (hs : n + m = 0) : ∃ k, vector_Vector_Total.f k (one 0 c n ++ one 1 c m) c = some (0, 0) := by
  by_cases h : n = 0
  · have h2 : m = 0 := by omega
    rw [h, h2, one_zero, one_zero]
    refine ⟨2, ?_⟩
    have hs0 : money_Sum.f 1 [] = some (0, 0) := sum_f [] (by simp) (by simp)
    unfold vector_Vector_Total.f
    rw [vector_Vector_Total.l0, if_neg (by simp)]
    rw [hs0]; rfl
  · have h2 : ¬ m = 0 := by omega
    have e1 : one 0 c n = [⟨0, c, n⟩] := if_neg h
    have e2 : one 1 c m = [⟨1, c, m⟩] := if_neg h2
    rw [e1, e2]
    refine ⟨7, ?_⟩
    have hs2 : money_Sum.f 4 [n, m] = some (0, 0) := by
      have := at_rounds (money_Sum.mono [n, m]) (k' := 4) (by simp) (sum_f [n, m] (by simp) (by intro a ha; simp at ha; rcases ha with rfl | rfl <;> assumption))
      rw [this]
      have e : ([n, m] : List Int).sum = 0 := by simp; omega
      rw [e]
      rfl
    have r0 : rd_T63 ([⟨0, c, n⟩, ⟨1, c, m⟩] : List S63) 0 = ⟨0, c, n⟩ := rfl
    have r1 : rd_T63 ([⟨0, c, n⟩, ⟨1, c, m⟩] : List S63) 1 = ⟨1, c, m⟩ := rfl
    have l2 : ((([⟨0, c, n⟩] ++ [⟨1, c, m⟩] : List S63)).length : Int) = 2 := rfl
    have w1 : wrap64 (0 + 1) = 1 := by unfold wrap64; omega
    have w2 : wrap64 (1 + 1) = 2 := by unfold wrap64; omega
    unfold vector_Vector_Total.f
    rw [l2]
    show vector_Vector_Total.l0 7 c [] [⟨0, c, n⟩, ⟨1, c, m⟩] 2 0 = _
    rw [vector_Vector_Total.l0, if_pos (by decide), if_pos (by decide), if_pos (by simp), r0, if_pos rfl, if_pos (by simp), w1]
    rw [vector_Vector_Total.l0, if_pos (by decide), if_pos (by decide), if_pos (by simp), r1, if_pos rfl, if_pos (by simp), w2]
    rw [vector_Vector_Total.l0, if_neg (by decide)]
    show (money_Sum.f 4 [n, m]).bind _ = _
    rw [hs2]; rfl
/-- two entities, one currency -/
theorem two_at (c n m : Int) : atP (one 0 c n) ⟨1, c, m⟩ = (one 0 c n).length := by
  unfold one
  split
  · rfl
  · simp [atP, cmpP]
theorem two_there (c n m : Int) : thereP (one 0 c n) ⟨1, c, m⟩ = false := by
  unfold thereP
  rw [two_at]
  simp
theorem two_of (c n m : Int) : ofP (one 0 c n) ⟨1, c, m⟩ = 0 := by
  unfold ofP
  rw [two_there, if_neg (by decide)]
theorem two_add (c n m : Int) : vadd (one 0 c n) ⟨1, c, m⟩ = one 0 c n ++ one 1 c m := by
  unfold vadd
  rw [two_there, if_neg (by decide)]
  by_cases h : m = 0
  · subst h; rw [one_zero, if_pos rfl, List.append_nil]
  · have e2 : one 1 c m = [⟨1, c, m⟩] := if_neg h
    rw [if_neg h, e2]
end Go.Proofs.Ytianljjmnpdkcaa.M
