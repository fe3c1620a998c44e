/-
  Peers in memory: a row of the call's own whose elements are still the elder ones (0), were cloned (1), or one that is told apart (2).
-/
import Derived.Test.YthgdojaildccaaaOLink1
namespace Go.Proofs.Ythgdojaildccaaa.M
open Go.RowKit Go.Proofs.Ythgdojaildccaaa.M Go.Proofs.YthgdojaildccaaaW.PrintWords Go.Proofs.YthgdojaildccaaaW.PrintLast Go.Proofs.YthgdojaildccaaaW.PrintMore
set_option linter.unusedVariables false
set_option linter.unusedSimpArgs false
/-- peers, of which one (tag 2) has the value vt told apart -/
def kQ (vt : Value) : Kd (S64 × Nat) where
  sz := 2
  E := k64.E
  K := fun W p cs => (p.2 ≠ 2 ∧ k64.K W p.1 cs) ∨ (p.2 = 2 ∧ vt.oneCell' = true ∧ cs = [vt, .int .i64 p.1.f1])
  M := fun W base ok p cs => (p.2 ≠ 2 ∧ k64.M W base ok p.1 cs) ∨ (p.2 = 2 ∧ vt.oneCell' = true ∧ cs = [vt, .int .i64 p.1.f1])
  K_len := by
    rintro w x cs (⟨_, h⟩ | ⟨_, _, rfl⟩)
    · exact k64.K_len h
    · rfl
  K_one := by
    rintro w x cs (⟨_, h⟩ | ⟨_, hv, rfl⟩) u hu
    · exact k64.K_one h u hu
    · simp only [List.mem_cons, List.not_mem_nil, or_false] at hu
      rcases hu with rfl | rfl
      · exact hv
      · rfl
  K_below := by
    rintro w w1 x cs hb (⟨h0, h⟩ | ⟨h0, hv, rfl⟩)
    · exact .inl ⟨h0, k64.K_below hb h⟩
    · exact .inr ⟨h0, hv, rfl⟩
  K_of_M := by
    rintro w base ok x cs (⟨h0, h⟩ | ⟨h0, hv, rfl⟩)
    · exact .inl ⟨h0, k64.K_of_M h⟩
    · exact .inr ⟨h0, hv, rfl⟩
  M_mono := by
    rintro w base ok ok' x cs hok (⟨h0, h⟩ | ⟨h0, hv, rfl⟩)
    · exact .inl ⟨h0, k64.M_mono hok h⟩
    · exact .inr ⟨h0, hv, rfl⟩
  M_bound := by
    rintro w base ok x cs (⟨h0, h⟩ | ⟨h0, hv, rfl⟩)
    · exact .inl ⟨h0, k64.M_bound h⟩
    · exact .inr ⟨h0, hv, rfl⟩
  M_move := by
    rintro w w1 base ok x cs hm (⟨h0, h⟩ | ⟨h0, hv, rfl⟩)
    · exact .inl ⟨h0, k64.M_move hm h⟩
    · exact .inr ⟨h0, hv, rfl⟩
  M_lower := by
    rintro w base base' ok x cs hb (⟨h0, h⟩ | ⟨h0, hv, rfl⟩)
    · exact .inl ⟨h0, k64.M_lower hb h⟩
    · exact .inr ⟨h0, hv, rfl⟩
theorem R_Q0 {W : World} {e base : Nat} {ok : Nat → Prop} {v vt : Value} {l : List S64} (h : k64.R e W base ok v l) : (kQ vt).R e W base ok v (l.map (fun x => (x, 0))) := by
  obtain ⟨h0, inner, ho, hr⟩ := h
  refine ⟨h0, inner, by rw [List.length_map]; exact ho, ⟨by rw [List.length_map]; exact hr.1, fun j p hj => ?_⟩⟩
  rw [List.getElem?_map] at hj
  obtain ⟨x, hx, rfl⟩ := Option.map_eq_some_iff.1 hj
  exact .inl ⟨by show (0 : Nat) ≠ 2; decide, hr.2 j x hx⟩
/-- another value is told apart (it was none) -/
theorem R_Qt {W : World} {e base : Nat} {ok : Nat → Prop} {v vt vt' : Value} {xs : List (S64 × Nat)} (h : (kQ vt).R e W base ok v xs) (h2 : ∀ p ∈ xs, p.2 ≠ 2) : (kQ vt').R e W base ok v xs := by
  obtain ⟨h0, inner, ho, hr⟩ := h
  refine ⟨h0, inner, ho, ⟨hr.1, fun j p hj => ?_⟩⟩
  rcases hr.2 j p hj with h | h
  · exact .inl h
  · exact absurd h.1 (h2 p (List.mem_of_getElem? hj))
theorem R_ofQ {W : World} {e base : Nat} {ok : Nat → Prop} {v vt : Value} {xs : List (S64 × Nat)} (h : (kQ vt).R e W base ok v xs) (h2 : ∀ p ∈ xs, p.2 ≠ 2) : k64.R e W base ok v (xs.map (·.1)) := by
  obtain ⟨h0, inner, ho, hr⟩ := h
  refine ⟨h0, inner, by rw [List.length_map]; exact ho, ⟨by rw [List.length_map]; exact hr.1, fun j p hj => ?_⟩⟩
  rw [List.getElem?_map] at hj
  obtain ⟨x, hx, rfl⟩ := Option.map_eq_some_iff.1 hj
  rcases hr.2 j x hx with h | h
  · exact h.2
  · exact absurd h.1 (h2 x (List.mem_of_getElem? hx))
/-- the peers on the way of a clone: those ahead of i are cloned (1), t is told apart (2) -/
def tags (t i : Nat) (l : List S64) : List (S64 × Nat) := l.mapIdx (fun j x => (x, if j < i then (if j = t then 2 else 1) else 0))
theorem tags_len (t i : Nat) (l : List S64) : (tags t i l).length = l.length := by simp [tags]
theorem tags_at {t i : Nat} {l : List S64} {j : Nat} (h : j < l.length) : (tags t i l)[j]? = some (l[j], if j < i then (if j = t then 2 else 1) else 0) := by simp [tags, h]
theorem tags_zero (t : Nat) (l : List S64) : l.map (fun x => (x, 0)) = tags t 0 l := by
  apply List.ext_getElem?
  intro j
  by_cases h : j < l.length
  · rw [tags_at h]; simp [h]
  · rw [List.getElem?_eq_none (by rw [List.length_map]; omega), List.getElem?_eq_none (by rw [tags_len]; omega)]
theorem tags_next {t i : Nat} {l : List S64} (h : i < l.length) : (tags t i l).set i (l[i], if i = t then 2 else 1) = tags t (i + 1) l := by
  apply List.ext_getElem?
  intro j
  by_cases hj : j < l.length
  · rw [tags_at hj]
    by_cases hij : i = j
    · subst hij
      rw [List.getElem?_set_self (by rw [tags_len]; exact h), if_pos (Nat.lt_succ_self i)]
    · rw [List.getElem?_set_ne hij, tags_at hj]
      by_cases h1 : j < i
      · have h2 : j < i + 1 := by omega
        simp [h1, h2]
      · have h2 : ¬ j < i + 1 := by omega
        simp [h1, h2]
  · rw [List.getElem?_eq_none (by rw [List.length_set, tags_len]; omega), List.getElem?_eq_none (by rw [tags_len]; omega)]
theorem tags_no2 {t i : Nat} {l : List S64} (h : i ≤ t) : ∀ p ∈ tags t i l, p.2 ≠ 2 := by
  intro p hp
  obtain ⟨j, hj⟩ := List.getElem?_of_mem hp
  have hjl : j < l.length := by have := (List.getElem?_eq_some_iff.1 hj).1; rwa [tags_len] at this
  rw [tags_at hjl] at hj
  injection hj with hj
  rw [← hj]
  show (if j < i then (if j = t then 2 else 1) else 0) ≠ 2
  split
  · rw [if_neg (by omega)]; decide
  · decide
/-- all are cloned, and t is written: none is told apart any more -/
theorem tags_done {t : Nat} {l : List S64} (x : S64) : ∀ p ∈ (tags t l.length l).set t (x, 1), p.2 ≠ 2 := by
  intro p hp
  obtain ⟨j, hj⟩ := List.getElem?_of_mem hp
  have hjl : j < l.length := by have := (List.getElem?_eq_some_iff.1 hj).1; rwa [List.length_set, tags_len] at this
  by_cases h : t = j
  · subst h
    rw [List.getElem?_set_self (by rw [tags_len]; exact hjl)] at hj
    injection hj with hj
    rw [← hj]; show (1 : Nat) ≠ 2; decide
  · rw [List.getElem?_set_ne h, tags_at hjl] at hj
    injection hj with hj
    rw [← hj]
    show (if j < l.length then (if j = t then 2 else 1) else 0) ≠ 2
    rw [if_pos hjl, if_neg (by omega)]; decide
theorem tags_map {t i : Nat} {l : List S64} (x : S64) (n : Nat) : ((tags t i l).set t (x, n)).map (·.1) = l.set t x := by
  rw [List.map_set]
  congr 1
  apply List.ext_getElem?
  intro j
  by_cases h : j < l.length
  · rw [List.getElem?_map, tags_at h]; simp [h]
  · rw [List.getElem?_eq_none (by rw [List.length_map, tags_len]; omega), List.getElem?_eq_none (by omega)]
end Go.Proofs.Ythgdojaildccaaa.M
