/-
  A heap in a list, plainly: up, down, and what is the least.
-/
import Derived.Test.YtdodaepdghlolaaPEv
namespace Go.Proofs.Ytdodaepdghlolaa.Pure.Clk
set_option linter.unusedVariables false
/-- a name that is due at a time; its turn; its block -/
structure Du where
  nm : ByteArray
  at_ : Int
  tn : Int
  bk : Nat
def zDu : Du := ⟨⟨#[]⟩, 0, 0, 0⟩
def key (x : Du) : Int := x.at_ * 18446744073709551616 + x.tn
def nth (q : List Du) (i : Nat) : Du := q.getD i zDu
def kq (q : List Du) (i : Nat) : Int := key (nth q i)
def swap (q : List Du) (i j : Nat) : List Du := (q.set i (nth q j)).set j (nth q i)
theorem key_lt {x y : Du} (hx : 0 ≤ x.tn ∧ x.tn < 9223372036854775807) (hy : 0 ≤ y.tn ∧ y.tn < 9223372036854775807) : key x < key y ↔ x.at_ < y.at_ ∨ (x.at_ = y.at_ ∧ x.tn < y.tn) := by
  unfold key; omega
theorem nth_eq {q : List Du} {i : Nat} (h : i < q.length) : nth q i = q[i] := by simp [nth, List.getD_eq_getElem?_getD, h]
theorem nth_mem {q : List Du} {i : Nat} (h : i < q.length) : nth q i ∈ q := by rw [nth_eq h]; exact List.getElem_mem _
theorem swap_len (q : List Du) (i j : Nat) : (swap q i j).length = q.length := by simp [swap]
theorem nth_set {q : List Du} {i k : Nat} {x : Du} (h : i < q.length) : nth (q.set i x) k = if k = i then x else nth q k := by
  unfold nth
  by_cases e : k = i
  · subst e; simp [List.getD_eq_getElem?_getD, h]
  · rw [if_neg e]
    simp only [List.getD_eq_getElem?_getD]
    rw [List.getElem?_set_ne (fun h => e h.symm)]
theorem nth_swap {q : List Du} {i j : Nat} (hi : i < q.length) (hj : j < q.length) (k : Nat) : nth (swap q i j) k = if k = j then nth q i else if k = i then nth q j else nth q k := by
  unfold swap
  rw [nth_set (by simpa using hj), nth_set hi]
theorem kq_swap {q : List Du} {i j : Nat} (hi : i < q.length) (hj : j < q.length) (k : Nat) : kq (swap q i j) k = if k = j then kq q i else if k = i then kq q j else kq q k := by
  unfold kq
  rw [nth_swap hi hj]
  split
  · rfl
  · split <;> rfl
theorem swap_perm {q : List Du} {i j : Nat} (hi : i < q.length) (hj : j < q.length) : (swap q i j).Perm q := by
  have := List.set_set_perm (as := q) (i := i) (j := j) hi hj
  unfold swap
  rw [nth_eq hi, nth_eq hj]
  exact this
theorem swap_drop {q : List Du} {i j n : Nat} (hi : i < n) (hj : j < n) : (swap q i j).drop n = q.drop n := by
  unfold swap
  rw [List.drop_set_of_lt hj, List.drop_set_of_lt hi]
theorem swap_bk (q : List Du) (i j : Nat) : (swap q i j).map Du.bk = ((q.map Du.bk).set i (nth q j).bk).set j (nth q i).bk := by
  unfold swap
  rw [List.map_set, List.map_set]
/-- a heap, the first n -/
def Hp (q : List Du) (n : Nat) : Prop := ∀ c, 0 < c → c < n → kq q ((c - 1) / 2) ≤ kq q c
/-- .. but for j, that may be less than what is above it -/
def HUp (q : List Du) (n j : Nat) : Prop := j < n ∧ (∀ c, 0 < c → c < n → c ≠ j → kq q ((c - 1) / 2) ≤ kq q c) ∧ ∀ c, 0 < c → c < n → (c - 1) / 2 = j → 0 < j → kq q ((j - 1) / 2) ≤ kq q c
/-- .. but for i, that may be anything -/
def HBo (q : List Du) (n i : Nat) : Prop := (∀ c, 0 < c → c < n → c ≠ i → (c - 1) / 2 ≠ i → kq q ((c - 1) / 2) ≤ kq q c) ∧ ∀ c, 0 < c → c < n → (c - 1) / 2 = i → 0 < i → kq q ((i - 1) / 2) ≤ kq q c
theorem up_step {q : List Du} {n i j : Nat} (hn : n ≤ q.length) (h : HUp q n j) (hj : 0 < j) (hi : i = (j - 1) / 2) (hl : kq q j < kq q i) : HUp (swap q i j) n i := by
  obtain ⟨h1, h2, h3⟩ := h
  have hij : i < j := by omega
  have il : i < q.length := by omega
  have jl : j < q.length := by omega
  refine ⟨by omega, fun c c0 cn ci => ?_, fun c c0 cn cp i0 => ?_⟩
  · rw [kq_swap il jl, kq_swap il jl]
    by_cases cj : c = j
    · subst cj
      rw [if_neg (by omega), if_pos hi.symm, if_pos rfl]; omega
    · rw [if_neg cj, if_neg ci]
      by_cases pj : (c - 1) / 2 = j
      · rw [if_pos pj]
        have := h3 c c0 cn pj hj
        rw [← hi] at this
        exact this
      · rw [if_neg pj]
        by_cases pi : (c - 1) / 2 = i
        · rw [if_pos pi]
          have := h2 c c0 cn cj
          rw [pi] at this
          omega
        · rw [if_neg pi]; exact h2 c c0 cn cj
  · rw [kq_swap il jl, kq_swap il jl, if_neg (by omega), if_neg (by omega)]
    have hpi := h2 i i0 (by omega) (by omega)
    by_cases cj : c = j
    · rw [if_pos cj]; exact hpi
    · rw [if_neg cj, if_neg (by omega)]
      have := h2 c c0 cn cj
      rw [cp] at this
      omega
theorem up_end {q : List Du} {n j : Nat} (h : HUp q n j) (hj : j = 0 ∨ kq q ((j - 1) / 2) ≤ kq q j) : Hp q n := by
  intro c c0 cn
  by_cases cj : c = j
  · subst cj
    rcases hj with hj | hj
    · omega
    · exact hj
  · exact h.2.1 c c0 cn cj
theorem down_step {q : List Du} {n i c : Nat} (hn : n ≤ q.length) (h : HBo q n i) (hc : 0 < c) (hcn : c < n) (hp : (c - 1) / 2 = i) (hmin : ∀ c', 0 < c' → c' < n → (c' - 1) / 2 = i → kq q c ≤ kq q c') (hl : kq q c < kq q i) :
    HBo (swap q i c) n c ∧ kq (swap q i c) ((c - 1) / 2) ≤ kq (swap q i c) c := by
  obtain ⟨h1, h2⟩ := h
  have il : i < q.length := by omega
  have cl : c < q.length := by omega
  have hic : i < c := by omega
  refine ⟨⟨fun d d0 dn dc dp => ?_, fun d d0 dn dp c0 => ?_⟩, ?_⟩
  · rw [kq_swap il cl, kq_swap il cl, if_neg dp, if_neg dc]
    by_cases pi : (d - 1) / 2 = i
    · rw [if_pos pi, if_neg (by omega)]
      exact hmin d d0 dn pi
    · rw [if_neg pi]
      by_cases di : d = i
      · rw [if_pos di]
        subst di
        exact h2 c hc hcn hp d0
      · rw [if_neg di]; exact h1 d d0 dn di pi
  · rw [kq_swap il cl, kq_swap il cl, hp, if_neg (by omega), if_pos rfl, if_neg (by omega), if_neg (by omega)]
    have := h1 d d0 dn (by omega) (by omega)
    rw [dp] at this
    exact this
  · rw [kq_swap il cl, kq_swap il cl, hp, if_neg (by omega), if_pos rfl, if_pos rfl]; omega
theorem down_end {q : List Du} {n i : Nat} (hi : i < n) (h : HBo q n i) (hc : ∀ c, 0 < c → c < n → (c - 1) / 2 = i → kq q i ≤ kq q c) : HUp q n i := by
  refine ⟨hi, fun c c0 cn ci => ?_, h.2⟩
  by_cases pi : (c - 1) / 2 = i
  · rw [pi]; exact hc c c0 cn pi
  · exact h.1 c c0 cn ci pi
theorem up_start {q : List Du} {n : Nat} (hn : 0 < n) (h : Hp q (n - 1)) : HUp q n (n - 1) :=
  ⟨by omega, fun c c0 cn cj => h c c0 (by omega), fun c c0 cn cp j0 => by omega⟩
/-- the first is the least -/
theorem hp_least {q : List Du} {n : Nat} (h : Hp q n) : ∀ c, c < n → kq q 0 ≤ kq q c := by
  intro c
  induction c using Nat.strongRecOn with
  | _ c ih =>
    intro hc
    by_cases c0 : c = 0
    · subst c0; exact Int.le_refl _
    · have := ih ((c - 1) / 2) (by omega) (by omega)
      have := h c (by omega) hc
      omega
/-- another key at i -/
theorem hp_both {q q' : List Du} {n i : Nat} (h : Hp q n) (he : ∀ k, k ≠ i → kq q' k = kq q k) : HBo q' n i := by
  refine ⟨fun c c0 cn ci cp => ?_, fun c c0 cn cp i0 => ?_⟩
  · rw [he _ cp, he _ ci]; exact h c c0 cn
  · rw [he _ (by omega), he _ (by omega)]
    have h1 := h c c0 cn
    have h2 := h i i0 (by omega)
    rw [cp] at h1
    omega
end Go.Proofs.Ytdodaepdghlolaa.Pure.Clk
