/-
  What money.Text writes is a text of digits with a point, of the amount's value.
-/
import Derived.Test.YtbnnjpibdlfhpaaDoorOParse
namespace Go.Proofs.YtbnnjpibdlfhpaaDoor.M
open Go.RowKit
set_option linter.unusedVariables false
set_option linter.unusedSimpArgs false
theorem dd_small {u : Nat} (h : u < 10) : Lib.decDigits u = [UInt8.ofNat (48 + u)] := by rw [Lib.decDigits, dif_pos h]
theorem dd_big {u : Nat} (h : ¬ u < 10) : Lib.decDigits u = Lib.decDigits (u / 10) ++ [UInt8.ofNat (48 + u % 10)] := by rw [Lib.decDigits, dif_neg h]
theorem of48 {d : Nat} (h : d < 10) : (UInt8.ofNat (48 + d)).toNat = 48 + d := by rw [UInt8.toNat_ofNat']; omega
theorem dd_dig (u : Nat) : ∀ c ∈ Lib.decDigits u, 48 ≤ c.toNat ∧ c.toNat ≤ 57 := by
  induction u using Nat.strongRecOn with
  | _ u ih =>
    by_cases h : u < 10
    · rw [dd_small h]
      intro c hc
      rw [List.mem_singleton.1 hc, of48 h]; omega
    · rw [dd_big h]
      intro c hc
      rcases List.mem_append.1 hc with hc | hc
      · exact ih (u / 10) (by omega) c hc
      · rw [List.mem_singleton.1 hc, of48 (by omega)]; omega
theorem stp_dig {v d : Nat} (h : d < 10) : stp v (UInt8.ofNat (48 + d)) = 10 * v + d := by
  have h1 := of48 h
  unfold stp
  rw [if_neg (by intro e; rw [e] at h1; have h3 : (46 : UInt8).toNat = 46 := rfl; omega), h1]
  omega
theorem dd_val (u : Nat) : (Lib.decDigits u).foldl stp 0 = u := by
  induction u using Nat.strongRecOn with
  | _ u ih =>
    by_cases h : u < 10
    · rw [dd_small h, List.foldl_cons, List.foldl_nil, stp_dig h]; omega
    · rw [dd_big h, List.foldl_append, ih (u / 10) (by omega), List.foldl_cons, List.foldl_nil, stp_dig (by omega)]; omega
theorem dd_head (u : Nat) (hu : 1 ≤ u) : (Lib.decDigits u).getD 0 0 ≠ 48 := by
  induction u using Nat.strongRecOn with
  | _ u ih =>
    by_cases h : u < 10
    · rw [dd_small h]
      intro e
      have h1 := of48 h
      have e' : UInt8.ofNat (48 + u) = 48 := e
      rw [e'] at h1
      have h3 : (48 : UInt8).toNat = 48 := rfl
      omega
    · have hp := dig_pos (u / 10)
      rw [dd_big h, List.getD_eq_getElem?_getD, List.getElem?_append_left (by omega), ← List.getD_eq_getElem?_getD]
      exact ih (u / 10) (by omega) (by omega)
theorem fold_zeros (k : Nat) (l : List UInt8) : (List.replicate k 48 ++ l).foldl stp 0 = l.foldl stp 0 := by
  induction k with
  | zero => simp
  | succ k ih => rw [List.replicate_succ, List.cons_append, List.foldl_cons, show stp 0 48 = 0 from rfl, ih]
theorem fold_point (x y : List UInt8) : (x ++ 46 :: y).foldl stp 0 = (x ++ y).foldl stp 0 := by
  rw [List.foldl_append, List.foldl_append, List.foldl_cons, show ∀ v, stp v 46 = v from fun v => rfl]
theorem pad_len (l : List UInt8) : (pad l).length = max 3 l.length := by
  unfold pad; rw [List.length_append, List.length_replicate]; omega
theorem pad_dig {l : List UInt8} (h : ∀ c ∈ l, 48 ≤ c.toNat ∧ c.toNat ≤ 57) : ∀ c ∈ pad l, 48 ≤ c.toNat ∧ c.toNat ≤ 57 := by
  intro c hc
  unfold pad at hc
  rcases List.mem_append.1 hc with hc | hc
  · rw [(List.mem_replicate.1 hc).2]; exact ⟨by decide, by decide⟩
  · exact h c hc
theorem body_dg (u : Nat) (hu : u < 18446744073709551616) : Dg (body (Lib.decDigits u)) u := by
  obtain ⟨l, hl⟩ : ∃ l, Lib.decDigits u = l := ⟨_, rfl⟩
  have hpos := dig_pos u
  have hle := dig_le u hu
  have hdg := dd_dig u
  have hval := dd_val u
  have hhd := dd_head u
  rw [hl] at hpos hle hdg hval hhd ⊢
  have hpl := pad_len l
  have hpd := pad_dig hdg
  obtain ⟨P, hP⟩ : ∃ P, pad l = P := ⟨_, rfl⟩
  rw [hP] at hpl hpd
  have hb : body l = P.take (P.length - 2) ++ 46 :: P.drop (P.length - 2) := by unfold body; rw [hP]
  have h3 : 3 ≤ P.length := by omega
  have h20 : P.length ≤ 20 := by omega
  have hlt : (P.take (P.length - 2)).length = P.length - 2 := by rw [List.length_take]; omega
  have hbl : (body l).length = P.length + 1 := by rw [hb, List.length_append, List.length_cons, hlt, List.length_drop]; omega
  refine ⟨by omega, by omega, ?_, ?_, ?_, ?_⟩
  · rw [hbl, show P.length + 1 - 3 = P.length - 2 by omega, hb, List.getD_eq_getElem?_getD, List.getElem?_append_right (by omega), hlt, Nat.sub_self]; rfl
  · intro h4
    have hpe : P = l := by rw [← hP]; exact pad_long (by omega)
    have hg : (body l).getD 0 0 = l.getD 0 0 := by
      rw [hb, List.getD_eq_getElem?_getD, List.getElem?_append_left (by omega), List.getElem?_take_of_lt (by omega), ← List.getD_eq_getElem?_getD, hpe]
    rw [hg]
    refine hhd ?_
    rcases Nat.eq_zero_or_pos u with h0 | h0
    · subst h0
      rw [dd_small (by omega)] at hl
      rw [← hl] at hpe
      have e1 : P.length = 1 := by rw [hpe]; rfl
      omega
    · exact h0
  · intro i hi hne
    rw [hbl] at hi hne
    have hm : (body l).getD i 0 ∈ P := by
      rw [hb]
      by_cases hlo : i < P.length - 2
      · rw [List.getD_eq_getElem?_getD, List.getElem?_append_left (by omega), List.getElem?_take_of_lt hlo, List.getElem?_eq_getElem (by omega)]
        exact List.getElem_mem _
      · obtain ⟨j, hj⟩ : ∃ j, i = P.length - 2 + 1 + j := ⟨i - (P.length - 2 + 1), by omega⟩
        rw [hj, List.getD_eq_getElem?_getD, List.getElem?_append_right (by omega), hlt, show P.length - 2 + 1 + j - (P.length - 2) = j + 1 by omega, List.getElem?_cons_succ, List.getElem?_drop, List.getElem?_eq_getElem (by omega)]
        exact List.getElem_mem _
    exact hpd _ hm
  · show (body l).foldl stp 0 = u
    rw [hb, fold_point, List.take_append_drop, ← hP]
    unfold pad
    rw [fold_zeros, hval]
end Go.Proofs.YtbnnjpibdlfhpaaDoor.M
