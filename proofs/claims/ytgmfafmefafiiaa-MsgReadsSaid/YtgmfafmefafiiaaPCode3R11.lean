/-
  What is read as a number is written in the same bytes: no number has two forms.
-/
import Derived.Test.YtgmfafmefafiiaaPCode2R11
namespace Go.Proofs.Ytgmfafmefafiiaa.Pure.Code
open Go.RowKit Go.Proofs.Ytgmfafmefafiiaa.M Go.Proofs.YtgmfafmefafiiaaW.PrintWords Go.Proofs.YtgmfafmefafiiaaW.PrintLast Go.Proofs.YtgmfafmefafiiaaW.PrintMore Go.Proofs.Ytgmfafmefafiiaa.Pure.Bits
theorem scan_one : ∀ (s : List Int) (i u : Nat), Bytes s → i ≤ 9 → u < 128 ^ i → (scan s i u).2.1 = 0 →
    ∃ q : Nat, (scan s i u).2.2 = u + q * 128 ^ i ∧ s.take (scan s i u).1 = numB q ∧ (0 < i → 0 < q) ∧ (scan s i u).2.2 < 2 ^ 64 ∧ (scan s i u).1 ≤ s.length := by
  intro s
  induction s with
  | nil => intro i u _ _ _ h; simp [scan] at h
  | cons x s ih =>
    intro i u hb hi hu h
    have hx : 0 ≤ x ∧ x < 256 := hb x (by simp)
    by_cases hc : (9 ≤ i ∧ x > 1) ∨ (0 < i ∧ x = 0)
    · simp only [scan, if_pos hc] at h
      omega
    · obtain ⟨-, e2⟩ := digit hi hu hx.1 hx.2 (fun h9 => by omega)
      by_cases h1 : x < 128
      · simp only [scan, if_neg hc, if_pos h1]
        refine ⟨x.toNat, by rw [show (x % 128).toNat = x.toNat by omega], ?_, fun h0 => by omega, e2, by simp⟩
        rw [numB_small (by omega)]
        simp
        omega
      · have hu2 : u + (x % 128).toNat * 128 ^ i < 128 ^ (i + 1) := by
          rw [Nat.pow_succ]
          have h3 : ((x % 128).toNat + 1) * 128 ^ i ≤ 128 * 128 ^ i := Nat.mul_le_mul_right _ (by omega)
          rw [Nat.add_mul, Nat.one_mul] at h3
          omega
        simp only [scan, if_neg hc, if_neg h1] at h ⊢
        obtain ⟨q, h2, h3, h4, h5, h6⟩ := ih (i + 1) (u + (x % 128).toNat * 128 ^ i) (fun y hy => hb y (by simp [hy])) (by omega) hu2 h
        refine ⟨(x % 128).toNat + 128 * q, ?_, ?_, fun _ => by have := h4 (by omega); omega, h5, by simp; omega⟩
        · rw [h2, Nat.pow_succ, Nat.add_mul, Nat.mul_assoc 128 q, Nat.mul_left_comm 128 q, Nat.mul_comm 128 (128 ^ i)]
          omega
        · have hq := h4 (by omega)
          rw [numB_big (by omega), List.take_succ_cons, h3, show ((x % 128).toNat + 128 * q) / 128 = q by omega]
          congr 1
          omega
/-- a number of which the last bytes are missing is told to be too short -/
theorem scan_short : ∀ u : Nat, ∀ (i v m : Nat), u * 128 ^ i < 2 ^ 64 → (0 < i → 0 < u) → m < (numB u).length → scan ((numB u).take m) i v = (m, 40, 0) := by
  intro u
  induction u using Nat.strongRecOn with
  | _ u ih =>
    intro i v m hu h0 hm
    have hp : 0 < 128 ^ i := Nat.pow_pos (by decide)
    cases m with
    | zero => rfl
    | succ m =>
      by_cases h : u > 127
      · rw [numB_big h] at hm ⊢
        rw [List.length_cons] at hm
        rw [List.take_succ_cons]
        have hi : i < 9 := by
          rcases Nat.lt_or_ge i 9 with h9 | h9
          · exact h9
          · have h1 : 128 ^ 9 ≤ 128 ^ i := Nat.pow_le_pow_right (by decide) h9
            have h2 : 128 * 128 ^ i ≤ u * 128 ^ i := Nat.mul_le_mul_right _ (by omega)
            have e9 : (128 : Nat) ^ 9 = 9223372036854775808 := by rfl
            omega
        have hn : ¬ ((9 ≤ i ∧ ((u % 128 + 128 : Nat) : Int) > 1) ∨ (0 < i ∧ ((u % 128 + 128 : Nat) : Int) = 0)) := by omega
        have hm2 : u / 128 * 128 ^ (i + 1) ≤ u * 128 ^ i := by
          rw [Nat.pow_succ, Nat.mul_comm (128 ^ i) 128, ← Nat.mul_assoc]
          exact Nat.mul_le_mul_right _ (Nat.div_mul_le_self _ _)
        simp only [scan]
        rw [if_neg hn, if_neg (by omega), ih (u / 128) (by omega) (i + 1) _ m (by omega) (by omega) (by omega)]
      · rw [numB_small h, List.length_singleton] at hm
        omega
end Go.Proofs.Ytgmfafmefafiiaa.Pure.Code
