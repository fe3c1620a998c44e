/-
  What is due, plainly: names, times and turns in a list.
-/
import Derived.Test.YtdodaepdghlolaaPHeap
namespace Go.Proofs.Ytdodaepdghlolaa.Pure.Clk
set_option linter.unusedVariables false
/-- what is due, in the order in which it was set -/
structure Good (now turns : Int) (d : List Du) : Prop where
  names : (d.map Du.nm).Nodup
  all : ∀ x ∈ d, now ≤ x.at_ ∧ x.at_ ≤ 1099511627776 ∧ 0 ≤ x.tn ∧ x.tn ≤ turns ∧ x.nm.size ≤ 9223372036854775807
  turn : d.Pairwise (fun x y => x.tn < y.tn)
  time : 0 ≤ now ∧ now ≤ 1099511627776 ∧ 0 ≤ turns
  len : d.length ≤ 4096
def but (d : List Du) (s : ByteArray) : List Du := d.filter (fun x => decide (x.nm ≠ s))
theorem but_perm {d q rest : List Du} {x : Du} (h : (rest ++ [x]).Perm q) (hq : q.Perm d) (hn : (d.map Du.nm).Nodup) : rest.Perm (but d x.nm) := by
  have h1 : (rest ++ [x]).Perm d := h.trans hq
  have h2 : ((rest ++ [x]).map Du.nm).Nodup := (h1.map Du.nm).nodup_iff.2 hn
  have h3 : (but (rest ++ [x]) x.nm).Perm (but d x.nm) := h1.filter _
  have h4 : but (rest ++ [x]) x.nm = rest := by
    unfold but
    rw [List.filter_append, List.filter_eq_self.2, List.filter_eq_nil_iff.2, List.append_nil]
    · intro y hy; rw [List.mem_singleton] at hy; subst hy; simp
    · intro y hy
      rw [List.map_append, List.nodup_append] at h2
      have := h2.2.2 y.nm (List.mem_map_of_mem hy) x.nm (by simp)
      simpa using this
  rw [h4] at h3
  exact h3
theorem but_len {d : List Du} {x : Du} (hx : x ∈ d) (hn : (d.map Du.nm).Nodup) : (but d x.nm).length + 1 = d.length := by
  obtain ⟨a, b, rfl⟩ := List.append_of_mem hx
  have : ((a ++ b) ++ [x]).Perm (a ++ x :: b) := by
    rw [List.append_assoc]
    exact List.Perm.append_left a List.perm_append_comm
  have h := (but_perm this (List.Perm.refl _) hn).length_eq
  rw [← h]; simp; omega
theorem but_self {d : List Du} {s : ByteArray} (h : ∀ x ∈ d, x.nm ≠ s) : but d s = d := List.filter_eq_self.2 (fun x hx => by simpa using h x hx)
theorem Good.but {now turns : Int} {d : List Du} (h : Good now turns d) (s : ByteArray) : Good now turns (but d s) :=
  ⟨h.names.sublist (List.Sublist.map _ List.filter_sublist), fun x hx => h.all x (List.mem_filter.1 hx).1, h.turn.sublist List.filter_sublist, h.time, Nat.le_trans (List.length_filter_le _ _) h.len⟩
theorem Good.turns_up {now turns : Int} {d : List Du} (h : Good now turns d) : Good now (turns + 1) d :=
  ⟨h.names, fun x hx => by have := h.all x hx; exact ⟨this.1, this.2.1, this.2.2.1, by omega, this.2.2.2.2⟩, h.turn, ⟨h.time.1, h.time.2.1, by have := h.time.2.2; omega⟩, h.len⟩
theorem Good.put {now turns : Int} {d : List Du} (h : Good now turns d) {s : ByteArray} {a : Int} {b : Nat} (ha : now ≤ a ∧ a ≤ 1099511627776) (hs : s.size ≤ 9223372036854775807) (hl : (Clk.but d s).length < 4096) : Good now (turns + 1) (Clk.but d s ++ [⟨s, a, turns + 1, b⟩]) := by
  have hb := (h.but s).turns_up
  refine ⟨?_, fun x hx => ?_, ?_, hb.time, by simp; omega⟩
  · rw [List.map_append, List.nodup_append]
    refine ⟨hb.names, by simp, fun a ha b hb2 => ?_⟩
    rw [List.map_cons, List.map_nil, List.mem_singleton] at hb2
    subst hb2
    obtain ⟨y, hy, rfl⟩ := List.mem_map.1 ha
    have := (List.mem_filter.1 hy).2
    simpa using this
  · rcases List.mem_append.1 hx with hx | hx
    · exact hb.all x hx
    · rw [List.mem_singleton] at hx
      subst hx
      exact ⟨ha.1, ha.2, by have := h.time.2.2; show 0 ≤ turns + 1; omega, Int.le_refl _, hs⟩
  · rw [List.pairwise_append]
    refine ⟨hb.turn, by simp, fun x hx y hy => ?_⟩
    rw [List.mem_singleton] at hy
    subst hy
    have := (h.but s).all x hx
    show x.tn < turns + 1
    omega
theorem Good.tok {now turns : Int} {d q : List Du} (h : Good now turns d) (ht : turns < 4611686018427387904) (hq : q.Perm d) : ∀ x ∈ q, 0 ≤ x.tn ∧ x.tn < 9223372036854775807 := fun x hx => by
  have := h.all x (hq.mem_iff.1 hx)
  omega
theorem mem_at {q : List Du} {x : Du} (h : x ∈ q) : ∃ i, i < q.length ∧ nth q i = x := by
  obtain ⟨i, hi, e⟩ := List.mem_iff_getElem.1 h
  exact ⟨i, hi, by rw [nth_eq hi, e]⟩
theorem set_perm {q : List Du} {i : Nat} (hi : i < q.length) (x : Du) : ∃ rest, (rest ++ [nth q i]).Perm q ∧ (rest ++ [x]).Perm (q.set i x) := by
  refine ⟨q.take i ++ q.drop (i + 1), ?_, ?_⟩
  · have e : q = q.take i ++ nth q i :: q.drop (i + 1) := by rw [nth_eq hi, List.getElem_cons_drop, List.take_append_drop]
    conv => rhs; rw [e]
    rw [List.append_assoc]
    exact List.Perm.append_left _ List.perm_append_comm
  · rw [List.set_eq_take_append_cons_drop, if_pos hi, List.append_assoc]
    exact List.Perm.append_left _ List.perm_append_comm
theorem name_inj {d : List Du} (hn : (d.map Du.nm).Nodup) {x y : Du} (hx : x ∈ d) (hy : y ∈ d) (e : x.nm = y.nm) : x = y := by
  induction d with
  | nil => cases hx
  | cons a l ih =>
    rw [List.map_cons, List.nodup_cons] at hn
    rcases List.mem_cons.1 hx with h1 | h1 <;> rcases List.mem_cons.1 hy with h2 | h2
    · rw [h1, h2]
    · subst h1; exact absurd (e ▸ List.mem_map_of_mem h2) hn.1
    · subst h2; exact absurd (e ▸ List.mem_map_of_mem h1) hn.1
    · exact ih hn.2 h1 h2
/-- the names that are due now -/
def soon (d : List Du) (t : Int) : List Du := d.filter (fun x => decide (x.at_ ≤ t))
def late (d : List Du) (t : Int) : List Du := d.filter (fun x => decide (t < x.at_))
theorem soon_nil {d : List Du} {t : Int} (h : ∀ x ∈ d, t < x.at_) : soon d t = [] ∧ late d t = d := by
  refine ⟨List.filter_eq_nil_iff.2 fun x hx => ?_, List.filter_eq_self.2 fun x hx => ?_⟩
  · have := h x hx; simp; omega
  · have := h x hx; simpa using this
theorem late_but {d : List Du} {t : Int} {x : Du} (hx : x ∈ d) (ha : x.at_ ≤ t) (hn : (d.map Du.nm).Nodup) : late (but d x.nm) t = late d t := by
  unfold late but
  rw [List.filter_filter]
  apply List.filter_congr
  intro y hy
  by_cases e : y.nm = x.nm
  · have : y = x := name_inj hn hy hx e
    subst this
    have : decide (t < y.at_) = false := decide_eq_false (by omega)
    simp [this]
  · simp [e]
/-- the least is the first of those that are due -/
theorem soon_first {now turns : Int} {d : List Du} (h : Good now turns d) (ht : turns < 4611686018427387904) {x : Du} (hx : x ∈ d) (ha : x.at_ ≤ now) (hm : ∀ y ∈ d, key x ≤ key y) : soon d now = x :: soon (but d x.nm) now := by
  obtain ⟨a, b, rfl⟩ := List.append_of_mem hx
  have hab := h.turn
  rw [List.pairwise_append] at hab
  have h1 : ∀ y ∈ a, ¬ y.at_ ≤ now := fun y hy hya => by
    have h2 := hab.2.2 y hy x (by simp)
    have h3 := hm y (List.mem_append_left _ hy)
    have h4 := h.all y (List.mem_append_left _ hy)
    have h5 := h.all x hx
    unfold key at h3
    omega
  have hn := h.names
  rw [List.map_append, List.map_cons, List.nodup_append] at hn
  have ha2 : ∀ y ∈ a, y.nm ≠ x.nm := fun y hy e => hn.2.2 y.nm (List.mem_map_of_mem hy) x.nm (by simp) e
  have hb2 : ∀ y ∈ b, y.nm ≠ x.nm := fun y hy e => by
    have := List.nodup_cons.1 hn.2.1
    exact this.1 (e ▸ List.mem_map_of_mem hy)
  have e1 : but (a ++ x :: b) x.nm = a ++ b := by
    unfold but
    rw [List.filter_append, List.filter_cons, if_neg (by simp), List.filter_eq_self.2 (fun y hy => by simpa using ha2 y hy), List.filter_eq_self.2 (fun y hy => by simpa using hb2 y hy)]
  rw [e1]
  unfold soon
  have e2 : a.filter (fun x => decide (x.at_ ≤ now)) = [] := List.filter_eq_nil_iff.2 (fun y hy => by simpa using h1 y hy)
  rw [List.filter_append, List.filter_append, e2, List.filter_cons, if_pos (by simpa using ha)]
  rfl
end Go.Proofs.Ytdodaepdghlolaa.Pure.Clk
