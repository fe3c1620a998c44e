/-
  A book's items in order: what Put leaves is in order, and holds what was there and the new one.
-/
import Derived.Test.YtianljjmnpdkcaaOBook2
namespace Go.Proofs.Ytianljjmnpdkcaa.M
open Go.RowKit Go.Proofs.YtianljjmnpdkcaaW.PrintWords
set_option linter.unusedVariables false
set_option linter.unusedSimpArgs false
theorem sort_ids (l : List S33) : SortI l ↔ (l.map (·.f0)).Pairwise (fun a b => cmpI a b < 0) := by
  unfold SortI
  rw [List.pairwise_map]
theorem getD_memI {l : List S33} {i : Nat} (h : i < l.length) : l.getD i z33 ∈ l := by
  rw [List.getD_eq_getElem?_getD, List.getElem?_eq_getElem h]; exact List.getElem_mem h
theorem there_id {l : List S33} {t : S31} (h : thereI l t = true) : atI l t < l.length ∧ (l.getD (atI l t) z33).f0 = t := by
  have h1 := thereI_lt h
  unfold thereI at h
  rw [Bool.and_eq_true] at h
  have h2 := cmpI_eq.1 (of_decide_eq_true h.2)
  refine ⟨h1, ?_⟩
  cases ht : (l.getD (atI l t) z33).f0
  cases t
  rw [ht] at h2
  simp only at h2
  rw [h2.1, h2.2]
theorem sort_lt {l : List S33} (hs : SortI l) {i j : Nat} (hij : i < j) (hj : j < l.length) : cmpI (l.getD i z33).f0 (l.getD j z33).f0 < 0 := by
  have := List.pairwise_iff_getElem.1 hs i j (by omega) hj hij
  rw [List.getD_eq_getElem?_getD, List.getElem?_eq_getElem (show i < l.length by omega), List.getD_eq_getElem?_getD, List.getElem?_eq_getElem hj]
  exact this
theorem there_of {l : List S33} (hs : SortI l) {x : S33} (hx : x ∈ l) : thereI l x.f0 = true ∧ l.getD (atI l x.f0) z33 = x := by
  obtain ⟨i, hi, he⟩ := List.mem_iff_getElem.1 hx
  have hg : l.getD i z33 = x := by rw [List.getD_eq_getElem?_getD, List.getElem?_eq_getElem hi]; exact he
  have h0 : cmpI x.f0 x.f0 = 0 := cmpI_eq.2 ⟨rfl, rfl⟩
  have hat : atI l x.f0 = i := by
    rcases Nat.lt_trichotomy (atI l x.f0) i with h | h | h
    · exfalso
      have h1 := sort_lt hs h hi
      rw [hg] at h1
      have := (atI_iff (t := x.f0) hs (atI l x.f0) (by omega)).1 h1
      omega
    · exact h
    · exfalso
      have := (atI_iff (t := x.f0) hs i hi).2 h
      rw [hg] at this
      omega
  refine ⟨?_, by rw [hat]; exact hg⟩
  unfold thereI
  rw [hat, hg, h0]
  simp [hi]
theorem put_mem {l : List S33} {x y : S33} (h : y ∈ putI l x) : y = x ∨ y ∈ l := by
  unfold putI at h
  split at h
  · rcases List.mem_or_eq_of_mem_set h with h | h
    · exact .inr h
    · exact .inl h
  · unfold ins at h
    rcases List.mem_append.1 h with h | h
    · exact .inr (List.mem_of_mem_take h)
    · rcases List.mem_cons.1 h with h | h
      · exact .inl h
      · exact .inr (List.mem_of_mem_drop h)
theorem put_len (l : List S33) (x : S33) : l.length ≤ (putI l x).length ∧ (putI l x).length ≤ l.length + 1 := by
  unfold putI
  split
  · rw [List.length_set]; omega
  · rw [ins_len _ _ _ (atI_le l x.f0)]; omega
theorem put_pos (l : List S33) (x : S33) : 0 < (putI l x).length := by
  unfold putI
  split
  · rename_i h
    rw [List.length_set]
    have := thereI_lt h
    omega
  · rw [ins_len _ _ _ (atI_le l x.f0)]; omega
theorem not_lt {a t : S31} (h : ¬ cmpI a t < 0) (h0 : ¬ cmpI a t = 0) : cmpI t a < 0 := by
  rw [cmpI_lt] at *
  rw [cmpI_eq] at h0
  omega
theorem put_sort {l : List S33} (hs : SortI l) (x : S33) : SortI (putI l x) := by
  unfold putI
  split
  · rename_i h
    obtain ⟨h1, h2⟩ := there_id h
    rw [sort_ids, List.map_set]
    have e : (l.map (·.f0)).set (atI l x.f0) x.f0 = l.map (·.f0) := by
      rw [List.getD_eq_getElem?_getD, List.getElem?_eq_getElem h1] at h2
      have h3 : atI l x.f0 < (l.map (·.f0)).length := by rw [List.length_map]; exact h1
      have h4 := List.set_getElem_self (i := atI l x.f0) h3
      simp only [List.getElem_map] at h4
      simp only [Option.getD_some] at h2
      rw [h2] at h4
      exact h4
    have e' : (List.map (fun y => y.f0) l).set (atI l x.f0) x.f0 = List.map (fun y => y.f0) l := e
    rw [e']
    exact (sort_ids l).1 hs
  · rename_i h
    have hth : thereI l x.f0 = false := by simpa using h
    have hle := atI_le l x.f0
    have hne : ∀ j, atI l x.f0 ≤ j → j < l.length → cmpI x.f0 (l.getD j z33).f0 < 0 := by
      intro j hj hl
      have h0 : cmpI x.f0 (l.getD (atI l x.f0) z33).f0 < 0 := by
        refine not_lt (fun k => ?_) (fun k => ?_)
        · have := (atI_iff (t := x.f0) hs (atI l x.f0) (by omega)).1 k
          omega
        · unfold thereI at hth
          rw [k, decide_eq_true (show atI l x.f0 < l.length by omega)] at hth
          simp at hth
      rcases Nat.eq_or_lt_of_le hj with he | he
      · rw [← he]; exact h0
      · exact cmpI_trans h0 (sort_lt hs he hl)
    unfold SortI ins
    rw [List.pairwise_append, List.pairwise_cons]
    refine ⟨List.Pairwise.sublist (List.take_sublist _ _) hs, ⟨fun b hb => ?_, List.Pairwise.sublist (List.drop_sublist _ _) hs⟩, fun a ha b hb => ?_⟩
    · obtain ⟨j, hj, he⟩ := List.mem_iff_getElem.1 hb
      rw [List.length_drop] at hj
      rw [List.getElem_drop] at he
      have := hne (atI l x.f0 + j) (by omega) (by omega)
      rw [List.getD_eq_getElem?_getD, List.getElem?_eq_getElem (by omega)] at this
      simp only [Option.getD_some] at this
      rw [he] at this
      exact this
    · obtain ⟨i, hi, he⟩ := List.mem_iff_getElem.1 ha
      rw [List.length_take] at hi
      rw [List.getElem_take] at he
      have h1 := (atI_iff (t := x.f0) hs i (by omega)).2 (by omega)
      rw [List.getD_eq_getElem?_getD, List.getElem?_eq_getElem (by omega)] at h1
      simp only [Option.getD_some] at h1
      rw [he] at h1
      rcases List.mem_cons.1 hb with rfl | hb
      · exact h1
      · obtain ⟨j, hj, he2⟩ := List.mem_iff_getElem.1 hb
        rw [List.length_drop] at hj
        rw [List.getElem_drop] at he2
        have := hne (atI l x.f0 + j) (by omega) (by omega)
        rw [List.getD_eq_getElem?_getD, List.getElem?_eq_getElem (by omega)] at this
        simp only [Option.getD_some] at this
        rw [he2] at this
        exact cmpI_trans h1 this
end Go.Proofs.Ytianljjmnpdkcaa.M
