/-
  The document's answer for a number that is read is the code's.
-/
import Derived.Test.YtgmfafmefafiiaaPFrom
import Derived.Test.YtgmfafmefafiiaaPRef11
import Derived.Test.YtgmfafmefafiiaaPCode3R11
import Derived.Test.YtgmfafmefafiiaaOReaderR11
import Derived.Test.YtgmfafmefafiiaaMx9
namespace Go.Proofs.Ytgmfafmefafiiaa.Pure.Code
open Go.RowKit Go.Proofs.Ytgmfafmefafiiaa.M Go.Proofs.YtgmfafmefafiiaaW.PrintWords Go.Proofs.YtgmfafmefafiiaaW.PrintLast Go.Proofs.YtgmfafmefafiiaaW.PrintMore Go.Proofs.Ytgmfafmefafiiaa.Pure.Bits
def val : List Int → Nat → Nat
  | _, 0 => 0
  | [], _ + 1 => 0
  | x :: t, i + 1 => (x % 128).toNat + 128 * val t i
theorem scan_run : ∀ (i : Nat) (t : List Int) (d u : Nat), i ≤ t.length → d + i ≤ 9 → (∀ x ∈ t.take i, 128 ≤ x) →
    scan t d u = ((scan (t.drop i) (d + i) (u + val t i * 128 ^ d)).1 + i, (scan (t.drop i) (d + i) (u + val t i * 128 ^ d)).2) := by
  intro i
  induction i with
  | zero => intro t d u _ _ _; simp [val]
  | succ i ih =>
    intro t d u hl hd hx
    cases t with
    | nil => simp at hl
    | cons x t =>
      have h1 : 128 ≤ x := hx x (by simp)
      have h2 := ih t (d + 1) (u + (x % 128).toNat * 128 ^ d) (by simpa using hl) (by omega) (fun y hy => hx y (by simp [hy]))
      rw [scan, if_neg (by omega), if_neg (by omega), h2]
      have e : u + (x % 128).toNat * 128 ^ d + val t i * 128 ^ (d + 1) = u + val (x :: t) (i + 1) * 128 ^ d := by
        rw [val, Nat.pow_succ, Nat.add_mul, Nat.mul_comm 128 (val t i), Nat.mul_assoc, Nat.mul_comm (128 ^ d) 128]
        omega
      rw [List.drop_succ_cons, show d + (i + 1) = d + 1 + i by omega, e]
      rfl
theorem bt_str {l : List Int} (hb : Bytes l) {i : Nat} (h : i < l.length) : bt (strOfNums l) (i : Int) = l[i] := by
  have e : bs (strOfNums l) = l := bs_str l (fun x hx => hb x hx)
  rw [bt_bs _ i (by rw [str_size]; exact h)]
  have aux : ∀ (p q : List Int) (hp : i < p.length) (hq : i < q.length), p = q → p[i] = q[i] := fun p q hp hq h => by subst h; rfl
  exact aux _ _ _ h e
/-- what the document's number comes to -/
def numRes (l : List Int) (a : Nat) : ByteArray × Int × Int × Int := (strOfNums l, if (rdNum l a).2.2 = 0 then ((rdNum l a).2.1 : Int) else (a : Int), (rdNum l a).2.2, (rdNum l a).1)
theorem rdNum_err {l : List Int} {a n v : Nat} {e : Int} (h : scan (l.drop a) 0 0 = (n, e, v)) (he : e ≠ 0) : numRes l a = (strOfNums l, (a : Int), e, 0) := by
  unfold numRes rdNum
  rw [h]
  simp only [if_neg he]
theorem val_drop {t : List Int} {q m : Nat} (h : q < t.length) (hm : 0 < m) : val (t.drop q) m = (t[q] % 128).toNat + 128 * val (t.drop (q + 1)) (m - 1) := by
  rw [List.drop_eq_getElem_cons h]
  obtain ⟨m, rfl⟩ : ∃ k, m = k + 1 := ⟨m - 1, by omega⟩
  rfl
theorem val_zero (t : List Int) : val t 0 = 0 := by cases t <;> rfl
theorem step_val (V D : Nat) (x : Int) (hx : 0 ≤ x ∧ x < 256) (e : D = (x % 128).toNat + 128 * V) (hD : D < 144115188075855872) : wrap64 (wrap64 ((V : Int) * 128) + wrap64 (Int.tmod x 128)) = (D : Int) := by
  rw [Int.tmod_eq_emod_of_nonneg hx.1]
  subst e
  unfold wrap64
  omega
theorem last_odd (V : Nat) (x : Int) (hx : 0 ≤ x ∧ x < 256) (hV : V < 144115188075855872) (h : Int.tmod (wrap64 (Int.tmod x 128)) 2 = 1) :
    wrap64 ((wrap64 (-(wrap64 ((wrap64 ((V : Int) * 64)) + (wrap64 (Int.tdiv (wrap64 (Int.tmod x 128)) 2)))))) - 1) = unzig ((x % 128).toNat + 128 * V) := by
  rw [Int.tmod_eq_emod_of_nonneg hx.1, show wrap64 (x % 128) = x % 128 by unfold wrap64; omega, Int.tmod_eq_emod_of_nonneg (by omega)] at h
  rw [Int.tmod_eq_emod_of_nonneg hx.1, show wrap64 (x % 128) = x % 128 by unfold wrap64; omega, Int.tdiv_eq_ediv_of_nonneg (by omega)]
  unfold unzig
  rw [if_neg (by omega)]
  unfold wrap64
  omega
theorem last_even (V : Nat) (x : Int) (hx : 0 ≤ x ∧ x < 256) (hV : V < 144115188075855872) (h : ¬ Int.tmod (wrap64 (Int.tmod x 128)) 2 = 1) :
    wrap64 ((wrap64 ((V : Int) * 64)) + (wrap64 (Int.tdiv (wrap64 (Int.tmod x 128)) 2))) = unzig ((x % 128).toNat + 128 * V) := by
  rw [Int.tmod_eq_emod_of_nonneg hx.1, show wrap64 (x % 128) = x % 128 by unfold wrap64; omega, Int.tmod_eq_emod_of_nonneg (by omega)] at h
  rw [Int.tmod_eq_emod_of_nonneg hx.1, show wrap64 (x % 128) = x % 128 by unfold wrap64; omega, Int.tdiv_eq_ediv_of_nonneg (by omega)]
  unfold unzig
  rw [if_pos (by omega)]
  unfold wrap64
  omega
theorem val_top {l : List Int} : ∀ (m j : Nat) (hj : j + m < l.length), val (l.drop j) m + (l[j + m] % 128).toNat * 128 ^ m = val (l.drop j) (m + 1) := by
  intro m
  induction m with
  | zero => intro j hj; rw [val_drop (q := j) (m := 0 + 1) (by omega) (by omega), val_zero, Nat.pow_zero, Nat.mul_one, Nat.add_sub_cancel, val_zero, Nat.mul_zero, Nat.zero_add]; rfl
  | succ m ihm =>
    intro j hj
    have h6 := ihm (j + 1) (by omega)
    rw [val_drop (t := l) (q := j) (m := m + 1) (by omega) (by omega), val_drop (t := l) (q := j) (m := m + 1 + 1) (by omega) (by omega), Nat.add_sub_cancel, Nat.add_sub_cancel, ← h6, Nat.pow_succ]
    have e9 : l[j + 1 + m]'(by omega) = l[j + (m + 1)]'(by omega) := by congr 1; omega
    rw [e9, Nat.mul_add, Nat.mul_left_comm 128, Nat.mul_comm 128 (128 ^ m)]
    omega
theorem val_mono {l : List Int} {a i : Nat} (hi : a + i < l.length) : ∀ d, d ≤ i → val (l.drop (a + d + 1)) (i - d) ≤ val (l.drop (a + 1)) i := by
  intro d
  induction d with
  | zero => intro _; exact Nat.le_refl _
  | succ d ihd =>
    intro hd
    have := ihd (by omega)
    have e := val_drop (t := l) (q := a + d + 1) (m := i - d) (by omega) (by omega)
    rw [show i - d - 1 = i - (d + 1) by omega, show a + d + 1 + 1 = a + (d + 1) + 1 by omega] at e
    omega
theorem ref_l1 {l : List Int} (hb : Bytes l) (hl : l.length < 4611686018427387904) {a i : Nat} (hi : a + i < l.length) (hv : val (l.drop (a + 1)) i < 144115188075855872) :
    ∀ q, q ≤ i → Ev (fun k => contraref04_Number.l1 k ((a + i : Nat) : Int) ((val (l.drop (a + q + 1)) (i - q) : Nat) : Int) ((a + q : Nat) : Int) (strOfNums l) (a : Int) 0)
      (strOfNums l, ((a + i + 1 : Nat) : Int), 0, unzig (val (l.drop a) (i + 1))) := by
  have hsz : ((strOfNums l).size : Int) = (l.length : Int) := by rw [str_size]
  have hx : ∀ j (h : j < l.length), 0 ≤ l[j] ∧ l[j] < 256 := fun j h => hb _ (List.getElem_mem h)
  intro q
  induction q with
  | zero =>
    intro _
    refine Ev.up ?_
    simp only [contraref04_Number.l1]
    refine Ev.neg (by omega) (Ev.pos (by omega) (Ev.pos (by rw [hsz]; omega) ?_))
    rw [bt_str hb (show a < l.length by omega)]
    have ev := val_drop (t := l) (q := a) (m := i + 1) (by omega) (by omega)
    rw [Nat.add_sub_cancel] at ev
    rw [ev, Nat.add_zero, Nat.sub_zero, show wrap64 (((a + i : Nat) : Int) + 1) = ((a + i + 1 : Nat) : Int) by unfold wrap64; omega]
    by_cases hp : Int.tmod (wrap64 (Int.tmod l[a] 128)) 2 = 1
    · exact Ev.pos hp (Ev.some_ (by rw [last_odd _ _ (hx a (by omega)) hv hp]))
    · exact Ev.neg hp (Ev.some_ (by rw [last_even _ _ (hx a (by omega)) hv hp]))
  | succ q ih =>
    intro hq
    refine Ev.up ?_
    simp only [contraref04_Number.l1]
    refine Ev.pos (by omega) (Ev.pos (by omega) (Ev.pos (by rw [hsz]; omega) ?_))
    rw [bt_str hb (show a + (q + 1) < l.length by omega)]
    have ev := val_drop (t := l) (q := a + q + 1) (m := i - q) (by omega) (by omega)
    rw [show i - q - 1 = i - (q + 1) by omega, show a + q + 1 + 1 = a + (q + 1) + 1 by omega] at ev
    have hmono := val_mono hi q (by omega)
    have e8 := step_val (val (l.drop (a + (q + 1) + 1)) (i - (q + 1))) (val (l.drop (a + q + 1)) (i - q)) (l[a + (q + 1)]'(by omega)) (hx (a + (q + 1)) (by omega)) ev (Nat.lt_of_le_of_lt hmono hv)
    rw [e8, show wrap64 (((a + (q + 1) : Nat) : Int) - 1) = ((a + q : Nat) : Int) by unfold wrap64; omega]
    exact ih (by omega)
theorem ref_j {l : List Int} (hb : Bytes l) (hl : l.length < 4611686018427387904) {a i : Nat} (ha : a ≤ l.length) (hi : a + i ≤ l.length) (h10 : i ≤ 10) (hx : ∀ x ∈ (l.drop a).take i, 128 ≤ x)
    (hs : i = 10 ∨ a + i = l.length ∨ ∃ h : a + i < l.length, l[a + i] < 128) : Ev (fun k => contraref04_Number.j1 k ((a + i : Nat) : Int) (strOfNums l) (a : Int) 0) (numRes l a) := by
  have hsz : ((strOfNums l).size : Int) = (l.length : Int) := by rw [str_size]
  have e0 : wrap64 (((a + i : Nat) : Int) - (a : Int)) = (i : Int) := by unfold wrap64; omega
  refine Ev.up ?_
  simp only [contraref04_Number.j1]
  rw [e0]
  have form : ∀ k, contraref04_Number.j2 (k + 1) ((a + i : Nat) : Int) true (strOfNums l) (a : Int) 0 = some (strOfNums l, (a : Int), 41, 0) := fun k => by simp only [contraref04_Number.j2, if_true]
  have hform : Ev (fun k => contraref04_Number.j2 k ((a + i : Nat) : Int) true (strOfNums l) (a : Int) 0) (strOfNums l, (a : Int), 41, 0) := Ev.up (Ev.congr form (Ev.now _))
  by_cases hc : i = 10
  · subst hc
    refine Ev.pos rfl (hform.eq ?_)
    have h9 : (l.drop a).take 9 = ((l.drop a).take 10).take 9 := by rw [List.take_take]; rfl
    have hr := scan_run 9 (l.drop a) 0 0 (by rw [List.length_drop]; omega) (by omega) (fun x h => hx x (by rw [h9] at h; exact List.mem_of_mem_take h))
    rw [List.drop_drop, List.drop_eq_getElem_cons (show a + 9 < l.length by omega), scan] at hr
    have h99 : 128 ≤ l[a + 9] := hx _ (by
      have : (l.drop a)[9]'(by rw [List.length_drop]; omega) = l[a + 9] := List.getElem_drop
      rw [← this]
      exact List.mem_take_iff_getElem.mpr ⟨9, by rw [List.length_drop]; omega, rfl⟩)
    rw [if_pos (by omega)] at hr
    exact (rdNum_err hr (by decide)).symm
  · refine Ev.neg (by omega) ?_
    have hr := scan_run i (l.drop a) 0 0 (by rw [List.length_drop]; omega) (by omega) hx
    rw [List.drop_drop] at hr
    by_cases hlt : a + i < l.length
    · have hxi : l[a + i] < 128 := by rcases hs with h | h | ⟨_, h⟩ <;> first | omega | exact h
      have hx0 := hb _ (List.getElem_mem hlt)
      refine Ev.pos (by rw [hsz]; omega) ?_
      rw [List.drop_eq_getElem_cons hlt, scan] at hr
      have good : ¬ ((9 ≤ i ∧ l[a + i] > 1) ∨ (0 < i ∧ l[a + i] = 0)) → Ev (fun k => contraref04_Number.j2 k ((a + i : Nat) : Int) false (strOfNums l) (a : Int) 0) (numRes l a) := by
        intro hg
        rw [Nat.zero_add, if_neg hg, if_pos hxi, Nat.pow_zero, Nat.mul_one, Nat.zero_add] at hr
        simp only at hr
        have ho := scan_one (l.drop a) 0 0 (fun x hx => hb x (List.mem_of_mem_drop hx)) (by omega) (by omega) (by rw [hr])
        obtain ⟨q, h1, h2, h3, h4, h5⟩ := ho
        rw [hr] at h4
        simp only at h4
        have hv1 := val_top i a hlt
        rw [hv1] at hr h4
        have hres : numRes l a = (strOfNums l, ((a + i + 1 : Nat) : Int), 0, unzig (val (l.drop a) (i + 1))) := by
          unfold numRes rdNum
          rw [hr]
          simp only [if_true]
          rw [show a + (1 + i) = a + i + 1 by omega]
        rw [hres]
        have hV : val (l.drop (a + 1)) i < 144115188075855872 := by
          have e := val_drop (t := l) (q := a) (m := i + 1) (by omega) (by omega)
          rw [Nat.add_sub_cancel] at e
          omega
        have hl1 := ref_l1 hb hl (a := a) (i := i) hlt hV i (Nat.le_refl _)
        rw [Nat.sub_self, val_zero] at hl1
        have hj3 : Ev (fun k => contraref04_Number.j3 k ((a + i : Nat) : Int) false (strOfNums l) (a : Int) 0) (strOfNums l, ((a + i + 1 : Nat) : Int), 0, unzig (val (l.drop a) (i + 1))) := by
          refine Ev.up ?_
          simp only [contraref04_Number.j3]
          exact Ev.neg (by decide) hl1
        refine Ev.up ?_
        simp only [contraref04_Number.j2]
        refine Ev.neg (by decide) (Ev.neg (by rw [hsz]; omega) ?_)
        by_cases hi0 : 0 < i
        · refine Ev.pos (by omega) (Ev.pos (by omega) (Ev.pos (by rw [hsz]; omega) ?_))
          rw [bt_str hb hlt, show (l[a + i] == 0) = false from beq_eq_false_iff_ne.mpr (fun h => hg (.inr ⟨hi0, h⟩))]
          exact hj3
        · exact Ev.neg (by omega) hj3
      have bad41 : ((9 ≤ i ∧ l[a + i] > 1) ∨ (0 < i ∧ l[a + i] = 0)) → numRes l a = (strOfNums l, (a : Int), 41, 0) := by
        intro hg
        rw [Nat.zero_add, if_pos hg] at hr
        exact rdNum_err hr (by decide)
      by_cases h9 : i = 9
      · refine Ev.pos (by omega) (Ev.pos (by omega) ?_)
        rw [bt_str hb hlt]
        by_cases h1 : l[a + i] > 1
        · rw [decide_eq_true h1, bad41 (.inl ⟨by omega, h1⟩)]; exact hform
        · rw [decide_eq_false h1]
          by_cases h0 : l[a + i] = 0
          · rw [bad41 (.inr ⟨by omega, h0⟩)]
            refine Ev.up ?_
            simp only [contraref04_Number.j2]
            refine Ev.neg (by decide) (Ev.neg (by rw [hsz]; omega) (Ev.pos (by omega) (Ev.pos (by omega) (Ev.pos (by rw [hsz]; omega) ?_))))
            rw [bt_str hb hlt, h0]
            refine Ev.up ?_
            simp only [contraref04_Number.j3]
            exact Ev.pos rfl (Ev.now _)
          · exact good (fun h => by rcases h with h | h <;> omega)
      · refine Ev.neg (by omega) ?_
        by_cases h0 : 0 < i ∧ l[a + i] = 0
        · rw [bad41 (.inr h0)]
          refine Ev.up ?_
          simp only [contraref04_Number.j2]
          refine Ev.neg (by decide) (Ev.neg (by rw [hsz]; omega) (Ev.pos (by omega) (Ev.pos (by omega) (Ev.pos (by rw [hsz]; omega) ?_))))
          rw [bt_str hb hlt, h0.2]
          refine Ev.up ?_
          simp only [contraref04_Number.j3]
          exact Ev.pos rfl (Ev.now _)
        · exact good (fun h => by rcases h with h | h; omega; exact h0 h)
    · refine Ev.neg (by rw [hsz]; omega) ?_
      rw [List.drop_eq_nil_of_le (show l.length ≤ a + i by omega), scan] at hr
      rw [rdNum_err hr (by decide)]
      refine Ev.up ?_
      simp only [contraref04_Number.j2]
      exact Ev.neg (by decide) (Ev.pos (by rw [hsz]; omega) (Ev.now _))
theorem ref_number {l : List Int} (hb : Bytes l) (hl : l.length < 4611686018427387904) {a : Nat} (ha : a ≤ l.length) : Ev (fun k => contraref04_Number.f k (strOfNums l) (a : Int) 0) (numRes l a) := by
  have hsz : ((strOfNums l).size : Int) = (l.length : Int) := by rw [str_size]
  unfold contraref04_Number.f
  refine Ev.pos rfl ?_
  have main : ∀ d i, i + d = 10 → a + i ≤ l.length → (∀ x ∈ (l.drop a).take i, 128 ≤ x) → Ev (fun k => contraref04_Number.l0 k ((a + i : Nat) : Int) (strOfNums l) (a : Int) 0) (numRes l a) := by
    intro d
    induction d with
    | zero =>
      intro i hi h1 hx
      have e0 : wrap64 (((a + i : Nat) : Int) - (a : Int)) = (i : Int) := by unfold wrap64; omega
      have hj := ref_j hb hl ha h1 (by omega) hx (.inl (by omega))
      refine Ev.up ?_
      simp only [contraref04_Number.l0]
      rw [e0]
      by_cases hlt : a + i < l.length
      · exact Ev.pos (by rw [hsz]; omega) (Ev.neg (by omega) hj)
      · exact Ev.neg (by rw [hsz]; omega) hj
    | succ d ih =>
      intro i hi h1 hx
      have e0 : wrap64 (((a + i : Nat) : Int) - (a : Int)) = (i : Int) := by unfold wrap64; omega
      refine Ev.up ?_
      simp only [contraref04_Number.l0]
      rw [e0]
      by_cases hlt : a + i < l.length
      · refine Ev.pos (by rw [hsz]; omega) (Ev.pos (by omega) (Ev.pos (by omega) ?_))
        rw [bt_str hb hlt]
        by_cases h128 : l[a + i] ≥ 128
        · refine Ev.pos h128 ?_
          rw [show wrap64 (((a + i : Nat) : Int) + 1) = ((a + (i + 1) : Nat) : Int) by unfold wrap64; omega]
          refine ih (i + 1) (by omega) (by omega) (fun x h => ?_)
          rw [List.take_succ_eq_append_getElem (by rw [List.length_drop]; omega)] at h
          rcases List.mem_append.mp h with h | h
          · exact hx x h
          · rw [List.mem_singleton.mp h, List.getElem_drop]; exact h128
        · exact Ev.neg h128 (ref_j hb hl ha h1 (by omega) hx (.inr (.inr ⟨hlt, by omega⟩)))
      · exact Ev.neg (by rw [hsz]; omega) (ref_j hb hl ha h1 (by omega) hx (.inr (.inl (by omega))))
  exact main 10 0 (by omega) (by omega) (fun x hx => by simp at hx)
end Go.Proofs.Ytgmfafmefafiiaa.Pure.Code
namespace Go.Proofs.Ytgmfafmefafiiaa.Pure.Msg
open Go.RowKit Go.Proofs.Ytgmfafmefafiiaa.M Go.Proofs.YtgmfafmefafiiaaW.PrintWords Go.Proofs.YtgmfafmefafiiaaW.PrintLast Go.Proofs.YtgmfafmefafiiaaW.PrintMore Go.Proofs.Ytgmfafmefafiiaa.Pure.Code
/-- what the plain reader and the document's have in common -/
structure Tog (l : List Int) (s : Nat × Int) (ra : Int) : Prop where
  le : s.1 ≤ l.length
  at_ : s.2 = 0 → ra = (s.1 : Int)
theorem num_ref {l : List Int} (hb : Bytes l) (hl : l.length ≤ 1000000) {s : Nat × Int} {ra : Int} (ht : Tog l s ra) :
    ∃ ra', Ev (fun k => contraref04_Number.f k (strOfNums l) ra s.2) (strOfNums l, ra', (rN l s).2.2, (rN l s).1) ∧ Tog l (rN l s).2 ra' := by
  obtain ⟨a, e⟩ := s
  by_cases he : e = 0
  · subst he
    have h0 : ra = (a : Int) := ht.at_ rfl
    subst h0
    have h2 := ref_number hb (by omega) ht.le
    unfold numRes at h2
    unfold rN
    rw [if_pos rfl]
    exact ⟨_, h2, ⟨rdNum_le ht.le, fun h => if_pos h⟩⟩
  · refine ⟨ra, ?_, ?_⟩
    · unfold contraref04_Number.f rN
      rw [if_neg he]
      exact Ev.neg he (Ev.now _)
    · unfold rN; rw [if_neg he]; exact ht
theorem int_ref {l : List Int} (hb : Bytes l) (hl : l.length ≤ 1000000) {s : Nat × Int} {ra : Int} (ht : Tog l s ra) (lo hi : Int) :
    ∃ ra', Ev (fun k => contraref04_Int.f k (strOfNums l) ra s.2 lo hi) (strOfNums l, ra', (rI l lo hi s).2.2, (rI l lo hi s).1) ∧ Tog l (rI l lo hi s).2 ra' := by
  obtain ⟨ra', h1, h2⟩ := num_ref hb hl ht
  unfold contraref04_Int.f
  by_cases he : (rN l s).2.2 = 0
  · have hs : s.2 = 0 := by
      by_cases h0 : s.2 = 0
      · exact h0
      · unfold rN at he; rw [if_neg h0] at he; exact absurd he h0
    have e1 : rN l s = rdNum l s.1 := by unfold rN; rw [if_pos hs]
    have e2 : rI l lo hi s = rdInt l s.1 lo hi := by unfold rI; rw [if_pos hs]
    rw [e1] at h1 h2 he
    rw [e2]
    unfold rdInt
    rw [if_pos he]
    by_cases hr : inRange (rdNum l s.1).1 lo hi
    · rw [if_pos hr]
      have hr1 := hr.1
      have hr2 := hr.2
      refine ⟨ra', Ev.bind h1 (Ev.pos he (Ev.neg (show ¬ (rdNum l s.1).1 < lo by omega) ?_)), h2⟩
      show Ev (fun k => contraref04_Int.j0 k (rdNum l s.1).1 (decide ((rdNum l s.1).1 > hi)) (strOfNums l) ra' (rdNum l s.1).2.2) _
      rw [decide_eq_false (show ¬ (rdNum l s.1).1 > hi by omega)]
      refine Ev.up ?_
      simp only [contraref04_Int.j0]
      exact Ev.neg (by decide) (Ev.pos he (Ev.now _))
    · rw [if_neg hr]
      refine ⟨ra', Ev.bind h1 ?_, ⟨h2.le, fun h => absurd h (by simp)⟩⟩
      have bad : ∀ b : Bool, b = true → Ev (fun k => contraref04_Int.j0 k (rdNum l s.1).1 b (strOfNums l) ra' (rdNum l s.1).2.2) (strOfNums l, ra', 1, 0) := by
        intro b hb
        refine Ev.up ?_
        simp only [contraref04_Int.j0]
        exact Ev.pos hb (Ev.neg (by decide) (Ev.now _))
      refine Ev.pos he ?_
      by_cases hlo : (rdNum l s.1).1 < lo
      · exact Ev.pos hlo (bad true rfl)
      · have hgt : (rdNum l s.1).1 > hi := by unfold inRange at hr; omega
        exact Ev.neg hlo (bad _ (decide_eq_true hgt))
  · have e2 : rI l lo hi s = (0, (rN l s).2) := by
      unfold rI rN
      by_cases h0 : s.2 = 0
      · rw [if_pos h0, if_pos h0]
        unfold rN at he; rw [if_pos h0] at he
        unfold rdInt; rw [if_neg he]
      · rw [if_neg h0, if_neg h0]
    rw [e2]
    refine ⟨ra', Ev.bind h1 (Ev.neg he (Ev.up ?_)), h2⟩
    simp only [contraref04_Int.j0]
    exact Ev.neg (by decide) (Ev.neg he (Ev.now _))
theorem bool_ref {l : List Int} (hb : Bytes l) (hl : l.length ≤ 1000000) {s : Nat × Int} {ra : Int} (ht : Tog l s ra) :
    ∃ ra', contraref04_Truth.f (strOfNums l) ra s.2 = some (strOfNums l, ra', (rB l s).2.2, (rB l s).1) ∧ Tog l (rB l s).2 ra' := by
  have hsz : ((strOfNums l).size : Int) = (l.length : Int) := by rw [str_size]
  obtain ⟨a, e⟩ := s
  by_cases he : e = 0
  · subst he
    have h0 : ra = (a : Int) := ht.at_ rfl
    subst h0
    have hle : a ≤ l.length := ht.le
    by_cases hlt : a < l.length
    · have e0 : rd l (a : Int) = l[a] := by simp [rd, hlt]
      have e1 : wrap64 ((a : Int) + 1) = ((a + 1 : Nat) : Int) := by unfold wrap64; omega
      have hB : rB l (a, 0) = (l[a] == 1, a + 1, if l[a] > 1 then 41 else 0) := by
        unfold rB
        rw [if_pos rfl, if_neg (show ¬ a = l.length by omega)]
        simp only [e0]
      rw [hB]
      unfold contraref04_Truth.f
      rw [if_pos rfl, hsz, if_neg (by omega), if_pos (by omega), if_pos (by omega), bt_str hb hlt, e1]
      by_cases hx : l[a] > 1
      · rw [if_pos hx, if_pos hx]
        exact ⟨_, rfl, ⟨hlt, fun h => absurd h (by simp)⟩⟩
      · rw [if_neg hx, if_neg hx]
        exact ⟨_, rfl, ⟨hlt, fun _ => rfl⟩⟩
    · have hB : rB l (a, 0) = (false, a, 40) := by
        unfold rB
        rw [if_pos rfl, if_pos (show a = l.length by omega)]
      rw [hB]
      unfold contraref04_Truth.f
      rw [if_pos rfl, hsz, if_pos (by omega)]
      exact ⟨_, rfl, ⟨hle, fun h => absurd h (by simp)⟩⟩
  · refine ⟨ra, ?_, ?_⟩
    · unfold contraref04_Truth.f rB
      rw [if_neg he, if_neg he]
    · unfold rB; rw [if_neg he]; exact ht
end Go.Proofs.Ytgmfafmefafiiaa.Pure.Msg
