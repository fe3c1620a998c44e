/-
  The bits of Go's whole numbers that the code of numbers uses, as plain numbers.
-/
import Derived.Test.YtgmfafmefafiiaaPEv
import Derived.Laws.BitsLemmas
import Derived.Test.YtgmfafmefafiiaaWMore
namespace Go.Proofs.Ytgmfafmefafiiaa.Pure.Bits
open Go.RowKit Go.Proofs.YtgmfafmefafiiaaW.PrintWords Go.Proofs.YtgmfafmefafiiaaW.PrintMore
theorem wu64 (n : Int) : IntKind.u64.wrap n = n % 18446744073709551616 := by simp [IntKind.wrap, IntKind.bits, IntKind.signed]
theorem wraps64 (n : Int) (h0 : 0 ≤ n) (h1 : n < 2 ^ 64) : IntKind.u64.wrap n = n := by rw [wu64]; omega
theorem or128 (x : Int) (h0 : 0 ≤ x) (h1 : x < 256) : Go.bits .or .u8 x 128 = x % 128 + 128 := by
  have h : ∀ i : Fin 256, Go.bits .or .u8 ((i.1 : Nat) : Int) 128 = ((i.1 : Nat) : Int) % 128 + 128 := by decide +kernel
  have := h ⟨x.toNat, by omega⟩
  rwa [show ((x.toNat : Nat) : Int) = x by omega] at this
theorem and127 (x : Int) (h0 : 0 ≤ x) (h1 : x < 256) : Go.bits .and .u8 x 127 = x % 128 := bits_mask .u8 8 (by decide) wraps_u8 7 (by decide) x h0 h1
theorem and1 (x : Int) (h0 : 0 ≤ x) (h1 : x < 2 ^ 64) : Go.bits .and .u64 x 1 = x % 2 := bits_mask .u64 64 (by decide) wraps64 1 (by decide) x h0 h1
theorem join (x y : Int) (i : Nat) (hx0 : 0 ≤ x) (hx : x % 2 ^ i = 0) (hx1 : x < 2 ^ 64) (hy0 : 0 ≤ y) (hy : y < 2 ^ i) (hy1 : y < 2 ^ 64) : Go.bits .or .u64 y x = y + x := by
  have := bits_join .u64 64 (by decide) wraps64 i x y hx0 hx hx1 hy0 hy hy1
  have c : Go.bits .or .u64 y x = Go.bits .or .u64 x y := by simp only [Go.bits, BitVec.or_comm]
  rw [c, this, Int.add_comm]
theorem xor_u64 (a b : Nat) (ha : a < 2 ^ 64) (hb : b < 2 ^ 64) : Go.bits .xor .u64 (a : Int) (b : Int) = ((a ^^^ b : Nat) : Int) := by
  have e : Go.bits .xor .u64 (a : Int) (b : Int) = IntKind.u64.wrap (((BitVec.ofNat 64 a ^^^ BitVec.ofNat 64 b).toNat : Nat) : Int) := by
    simp only [Go.bits, BitVec.ofInt_natCast, IntKind.bits]
    rfl
  rw [e, BitVec.toNat_xor, BitVec.toNat_ofNat, BitVec.toNat_ofNat, Nat.mod_eq_of_lt ha, Nat.mod_eq_of_lt hb]
  have := Nat.xor_lt_two_pow ha hb
  exact wraps64 _ (Int.natCast_nonneg _) (by omega)
theorem xor_zero (a : Nat) (ha : a < 2 ^ 64) : Go.bits .xor .u64 (a : Int) 0 = a := by
  have := xor_u64 a 0 ha (by decide)
  simpa using this
theorem xor_ones (a : Nat) (ha : a < 2 ^ 64) : Go.bits .xor .u64 (a : Int) 18446744073709551615 = 18446744073709551615 - (a : Int) := by
  have e : Go.bits .xor .u64 (a : Int) 18446744073709551615 = IntKind.u64.wrap (((BitVec.ofNat 64 a ^^^ BitVec.allOnes 64).toNat : Nat) : Int) := by
    simp only [Go.bits, BitVec.ofInt_natCast, IntKind.bits]
    rfl
  rw [e, BitVec.xor_allOnes, BitVec.toNat_not, BitVec.toNat_ofNat, Nat.mod_eq_of_lt ha, wu64]
  omega
/-- a whole number as a natural one: twice it, or less one without the sign -/
def zig (n : Int) : Nat := if 0 ≤ n then (2 * n).toNat else (-2 * n - 1).toNat
theorem zig_lt (n : Int) (h0 : -9223372036854775808 ≤ n) (h1 : n ≤ 9223372036854775807) : zig n < 2 ^ 64 := by unfold zig; split <;> omega
theorem zig_code (n : Int) (h0 : -9223372036854775808 ≤ n) (h1 : n ≤ 9223372036854775807) :
    Go.bits .xor .u64 (IntKind.u64.wrap ((IntKind.u64.wrap n) * 2)) (IntKind.u64.wrap (n / 9223372036854775808)) = (zig n : Int) := by
  rw [wu64, wu64, wu64]
  unfold zig
  by_cases hn : 0 ≤ n
  · rw [if_pos hn]
    have e1 : n % 18446744073709551616 * 2 % 18446744073709551616 = (((2 * n).toNat : Nat) : Int) := by omega
    have e2 : n / 9223372036854775808 % 18446744073709551616 = 0 := by omega
    rw [e1, e2, xor_zero _ (by omega)]
  · rw [if_neg hn]
    have e1 : n % 18446744073709551616 * 2 % 18446744073709551616 = (((2 * n + 18446744073709551616).toNat % 18446744073709551616 : Nat) : Int) := by omega
    have e2 : n / 9223372036854775808 % 18446744073709551616 = 18446744073709551615 := by omega
    rw [e1, e2, xor_ones _ (by omega)]
    omega
/-- back: what the code makes of a natural number -/
def unzig (u : Nat) : Int := if u % 2 = 0 then ((u / 2 : Nat) : Int) else -((u / 2 : Nat) : Int) - 1
theorem xor_i64 (a b : Nat) (ha : a < 2 ^ 63) (hb : b = 0 ∨ b = 1) : Go.bits .xor .i64 (a : Int) (-(b : Int)) = if b = 0 then (a : Int) else -(a : Int) - 1 := by
  rcases hb with rfl | rfl
  · have e : Go.bits .xor .i64 (a : Int) (-((0 : Nat) : Int)) = IntKind.i64.wrap (((BitVec.ofNat 64 a ^^^ 0#64).toNat : Nat) : Int) := by
      simp only [Go.bits, BitVec.ofInt_natCast, IntKind.bits]
      rfl
    rw [e, BitVec.xor_zero, BitVec.toNat_ofNat, Nat.mod_eq_of_lt (by omega), IntKind.wrap_i64, if_pos rfl]
    omega
  · have e : Go.bits .xor .i64 (a : Int) (-((1 : Nat) : Int)) = IntKind.i64.wrap (((BitVec.ofNat 64 a ^^^ BitVec.allOnes 64).toNat : Nat) : Int) := by
      simp only [Go.bits, BitVec.ofInt_natCast, IntKind.bits]
      rfl
    rw [e, BitVec.xor_allOnes, BitVec.toNat_not, BitVec.toNat_ofNat, Nat.mod_eq_of_lt (by omega), IntKind.wrap_i64, if_neg (by decide)]
    omega
theorem unzig_code (u : Nat) (h : u < 2 ^ 64) : Go.bits .xor .i64 (wrap64 ((u : Int) / 2)) (wrap64 (-(wrap64 (Go.bits .and .u64 (u : Int) 1)))) = unzig u := by
  rw [and1 _ (by omega) (by exact_mod_cast h)]
  have e1 : wrap64 ((u : Int) / 2) = ((u / 2 : Nat) : Int) := by unfold wrap64; omega
  have e2 : wrap64 (-(wrap64 ((u : Int) % 2))) = -(((u % 2 : Nat) : Nat) : Int) := by unfold wrap64; omega
  rw [e1, e2, xor_i64 _ _ (by omega) (by omega)]
  rfl
theorem unzig_zig (n : Int) : unzig (zig n) = n := by
  unfold unzig zig
  split <;> split <;> omega
theorem zig_unzig (u : Nat) : zig (unzig u) = u := by
  unfold unzig zig
  split <;> split <;> omega
end Go.Proofs.Ytgmfafmefafiiaa.Pure.Bits
