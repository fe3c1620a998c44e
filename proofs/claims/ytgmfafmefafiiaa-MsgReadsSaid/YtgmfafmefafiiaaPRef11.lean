/-
  The document's answers for numbers as bytes.
-/
import Derived.Test.YtgmfafmefafiiaaPCode2R11
import Derived.Test.YtgmfafmefafiiaaPStr
namespace Go.Proofs.Ytgmfafmefafiiaa.Pure.Code
open Go.RowKit Go.Proofs.Ytgmfafmefafiiaa.M Go.Proofs.YtgmfafmefafiiaaW.PrintWords Go.Proofs.YtgmfafmefafiiaaW.PrintLast Go.Proofs.YtgmfafmefafiiaaW.PrintMore Go.Proofs.Ytgmfafmefafiiaa.Pure.Bits
theorem str_size (l : List Int) : (strOfNums l).size = l.length := by
  unfold strOfNums
  simp [ByteArray.size]
theorem str_append (a b : List Int) : strOfNums (a ++ b) = strOfNums a ++ strOfNums b := by
  apply ByteArray.ext
  rw [ByteArray.data_append]
  unfold strOfNums
  simp
theorem ref_num_l0 : ∀ (h d : Nat) (s : ByteArray), d < 128 → s.size + h < 2 ^ 60 → Ev (fun k => contraref04_Num.l0 k (h : Int) s (d : Int)) (s ++ strOfNums (numB (h * 128 + d))) := by
  intro h
  induction h using Nat.strongRecOn with
  | _ h ih =>
    intro d s hd hs
    refine Ev.up ?_
    simp only [contraref04_Num.l0]
    by_cases h0 : (h : Int) > 0
    · refine Ev.pos h0 (Ev.let_ ?_)
      have e1 : (strOfNums [(wrap64 ((d : Int) + 128)) % 256]).size = 1 := str_size _
      refine Ev.pos (by rw [e1]; omega) ?_
      have e2 : wrap64 (Int.tdiv (h : Int) 128) = ((h / 128 : Nat) : Int) := by
        rw [Int.tdiv_eq_ediv_of_nonneg (by omega)]
        unfold wrap64; omega
      have e3 : Int.tmod (h : Int) 128 = ((h % 128 : Nat) : Int) := by
        rw [Int.tmod_eq_emod_of_nonneg (by omega)]
        omega
      have e4 : (wrap64 ((d : Int) + 128)) % 256 = ((d + 128 : Nat) : Int) := by unfold wrap64; omega
      rw [e2, e3, e4]
      rw [e4] at e1
      refine (ih (h / 128) (by omega) (h % 128) _ (by omega) (by rw [ByteArray.size_append, e1]; omega)).eq ?_
      rw [ByteArray.append_assoc, ← str_append, numB_big (u := h * 128 + d) (by omega), show h / 128 * 128 + h % 128 = h by omega, show (h * 128 + d) % 128 = d by omega, show (h * 128 + d) / 128 = h by omega]
      rfl
    · obtain rfl : h = 0 := by omega
      refine Ev.neg h0 (Ev.let_ ?_)
      have e1 : (strOfNums [(d : Int) % 256]).size = 1 := str_size _
      refine Ev.pos (by rw [e1]; omega) (Ev.some_ ?_)
      rw [numB_small (by omega), show (d : Int) % 256 = ((0 * 128 + d : Nat) : Int) by omega]
theorem ref_num_ev {n : Int} (h : I64 n) : Ev (fun k => contraref04_Num.f k n) (strOfNums (enc n)) := by
  have aux : ∀ (x m : Nat), x < 2 → m < 2 ^ 63 → Ev (fun k => contraref04_Num.j0 k (x : Int) (m : Int)) (strOfNums (numB (2 * m + x))) := by
    intro x m hx hm
    refine Ev.up ?_
    simp only [contraref04_Num.j0]
    have e2 : wrap64 (Int.tdiv (m : Int) 64) = ((m / 64 : Nat) : Int) := by
      rw [Int.tdiv_eq_ediv_of_nonneg (by omega)]
      unfold wrap64; omega
    have e3 : wrap64 ((wrap64 ((Int.tmod (m : Int) 64) * 2)) + (x : Int)) = (((m % 64) * 2 + x : Nat) : Int) := by
      rw [Int.tmod_eq_emod_of_nonneg (by omega)]
      unfold wrap64; omega
    rw [e2, e3]
    refine (ref_num_l0 (m / 64) ((m % 64) * 2 + x) _ (by omega) (by show 0 + m / 64 < _; omega)).eq ?_
    rw [show m / 64 * 128 + (m % 64 * 2 + x) = 2 * m + x by omega]
    exact ByteArray.empty_append
  obtain ⟨h1, h2⟩ := h
  unfold contraref04_Num.f
  by_cases h0 : n < 0
  · refine Ev.pos h0 ?_
    have e1 : wrap64 (-(wrap64 (n + 1))) = (((-(n + 1)).toNat : Nat) : Int) := by unfold wrap64; omega
    rw [e1]
    refine (aux 1 _ (by omega) (by omega)).eq ?_
    unfold enc zig
    rw [if_neg (by omega), show 2 * (-(n + 1)).toNat + 1 = (-2 * n - 1).toNat by omega]
  · refine Ev.neg h0 ?_
    obtain ⟨m, rfl⟩ := Int.eq_ofNat_of_zero_le (show 0 ≤ n by omega)
    refine (aux 0 m (by omega) (by omega)).eq ?_
    unfold enc zig
    rw [if_pos (by omega), show 2 * m + 0 = (2 * (m : Int)).toNat by omega]
end Go.Proofs.Ytgmfafmefafiiaa.Pure.Code
