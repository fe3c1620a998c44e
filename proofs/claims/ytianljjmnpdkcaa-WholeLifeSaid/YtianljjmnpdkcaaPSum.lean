/-
  Amounts: what Add, Neg and Sum come to, plainly.
-/
import Derived.Test.YtianljjmnpdkcaaMx4
import Derived.Test.YtianljjmnpdkcaaMx5
import Derived.Test.YtianljjmnpdkcaaMx6
namespace Go.Proofs.Ytianljjmnpdkcaa.M
open Go.RowKit Go.Proofs.YtianljjmnpdkcaaW.PrintWords
set_option linter.unusedVariables false
set_option linter.unusedSimpArgs false
/-- it fits into an amount -/
def In64 (x : Int) : Prop := -9223372036854775808 ≤ x ∧ x ≤ 9223372036854775807
instance (x : Int) : Decidable (In64 x) := inferInstanceAs (Decidable (_ ∧ _))
theorem in64_wf {x : Int} (h : (Lit.int .i64 x).wf = true) : In64 x := by
  have := h
  simp [Lit.wf, IntKind.min, IntKind.max, IntKind.signed, IntKind.bits] at this
  exact this
theorem wrap_in {x : Int} (h : In64 x) : wrap64 x = x := by unfold In64 at h; unfold wrap64; omega
/-- an amount, or that it doesn't fit -/
def fit (x : Int) : Int × Int := if In64 x then (x, 0) else (0, 10)
theorem fit_in {x : Int} (h : In64 x) : fit x = (x, 0) := if_pos h
theorem fit_out {x : Int} (h : ¬ In64 x) : fit x = (0, 10) := if_neg h
theorem add_f {a b : Int} (ha : In64 a) (hb : In64 b) : money_Add.f a b = some (fit (a + b)) := by
  unfold money_Add.f
  unfold In64 at ha hb
  have e1 : 0 < b → wrap64 (9223372036854775807 - b) = 9223372036854775807 - b := fun h => wrap_in (by unfold In64; omega)
  have e2 : b < 0 → wrap64 ((-9223372036854775808) - b) = -9223372036854775808 - b := fun h => wrap_in (by unfold In64; omega)
  by_cases hb0 : b > 0
  · rw [if_pos hb0, e1 (by omega)]
    by_cases hc : a > 9223372036854775807 - b
    · rw [if_pos hc, fit_out (by unfold In64; omega)]
    · rw [if_neg hc, if_neg (by omega), wrap_in (by unfold In64; omega), fit_in (by unfold In64; omega)]
  · rw [if_neg hb0]
    by_cases hb1 : b < 0
    · rw [if_pos hb1, e2 hb1]
      by_cases hc : a < -9223372036854775808 - b
      · rw [if_pos hc, fit_out (by unfold In64; omega)]
      · rw [if_neg hc, wrap_in (by unfold In64; omega), fit_in (by unfold In64; omega)]
    · rw [if_neg hb1, wrap_in (by unfold In64; omega), fit_in (by unfold In64; omega)]
theorem neg_f {a : Int} (ha : In64 a) : money_Neg.f a = some (fit (-a)) := by
  unfold money_Neg.f
  unfold In64 at ha
  by_cases h : a = -9223372036854775808
  · rw [if_pos h, fit_out (by unfold In64; omega)]
  · rw [if_neg h, wrap_in (by unfold In64; omega), fit_in (by unfold In64; omega)]
theorem u64_w (x : Int) : IntKind.u64.wrap x = x % 18446744073709551616 := IntKind.wrap_u64 x
theorem wide_arith (h l a r : Int) (hl0 : 0 ≤ l) (hl1 : l < 18446744073709551616) (ha0 : -9223372036854775808 ≤ a) (ha1 : a ≤ 9223372036854775807) (hr : r = (l + a % 18446744073709551616) % 18446744073709551616) :
    (a < 0 → r < l → r = l + a) ∧ (a < 0 → ¬ r < l → r = l + a + 18446744073709551616) ∧ (¬ a < 0 → r < l → r = l + a - 18446744073709551616) ∧ (¬ a < 0 → ¬ r < l → r = l + a) ∧ 0 ≤ r ∧ r < 18446744073709551616 := by
  omega
theorem wide_f {h l a : Int} (hh0 : -1099511627776 ≤ h) (hh1 : h ≤ 1099511627776) (hl0 : 0 ≤ l) (hl1 : l < 18446744073709551616) (ha : In64 a) :
    ∃ h' l', money_wide_add.f h l a = some (h', l') ∧ h' * 18446744073709551616 + l' = h * 18446744073709551616 + l + a ∧ (0 ≤ l' ∧ l' < 18446744073709551616) ∧ h - 1 ≤ h' ∧ h' ≤ h + 1 := by
  obtain ⟨r, hr⟩ : ∃ r, r = (l + a % 18446744073709551616) % 18446744073709551616 := ⟨_, rfl⟩
  obtain ⟨c1, c2, c3, c4, r0, r1⟩ := wide_arith h l a r hl0 hl1 ha.1 ha.2 hr
  have er : IntKind.u64.wrap (l + (IntKind.u64.wrap a)) = r := by rw [u64_w, u64_w, hr]
  unfold money_wide_add.f
  rw [er]
  have w1 : wrap64 (h - 1) = h - 1 := wrap_in (by unfold In64; omega)
  have w2 : wrap64 (h + 1) = h + 1 := wrap_in (by unfold In64; omega)
  have w3 : wrap64 (h - 1 + 1) = h := by rw [wrap_in (by unfold In64; omega)]; omega
  by_cases hn : a < 0
  · rw [if_pos hn, w1, w3]
    by_cases hc : r < l
    · rw [if_pos hc]; exact ⟨h, r, rfl, by have := c1 hn hc; omega, ⟨r0, r1⟩, by omega, by omega⟩
    · rw [if_neg hc]; exact ⟨h - 1, r, rfl, by have := c2 hn hc; omega, ⟨r0, r1⟩, by omega, by omega⟩
  · rw [if_neg hn, w2]
    by_cases hc : r < l
    · rw [if_pos hc]; exact ⟨h + 1, r, rfl, by have := c3 hn hc; omega, ⟨r0, r1⟩, by omega, by omega⟩
    · rw [if_neg hc]; exact ⟨h, r, rfl, by have := c4 hn hc; omega, ⟨r0, r1⟩, by omega, by omega⟩
theorem rd_nat (l : List Int) (i : Nat) : rd l (i : Int) = l.getD i 0 := by unfold rd; rw [Int.toNat_natCast]
theorem sum_next (l : List Int) (i : Nat) (h : i < l.length) : (l.take (i + 1)).sum = (l.take i).sum + l.getD i 0 := by
  rw [List.take_add_one, List.getElem?_eq_getElem h, List.sum_append, List.getD_eq_getElem?_getD, List.getElem?_eq_getElem h]
  simp
theorem sum_arith {lo : Int} (l0 : 0 ≤ lo) (l1 : lo < 18446744073709551616) : (wrap64 lo = lo ∧ lo < 9223372036854775808) ∨ (wrap64 lo = lo - 18446744073709551616 ∧ 9223372036854775808 ≤ lo) := by unfold wrap64; omega
theorem sum_a1 {h lo : Int} (l0 : 0 ≤ lo) (hb : lo < 9223372036854775808) (hz : ¬ h = 0) : ¬ In64 (h * 18446744073709551616 + lo) := by unfold In64; omega
theorem sum_a2 {h lo : Int} (l0 : lo < 18446744073709551616) (hb : 9223372036854775808 ≤ lo) (hz : ¬ h = -1) : ¬ In64 (h * 18446744073709551616 + lo) := by unfold In64; omega
theorem sum_end (k : Nat) (l : List Int) (n i h lo s : Int) (hi : ¬ i < n) (he : h * 18446744073709551616 + lo = s) (l0 : 0 ≤ lo) (l1 : lo < 18446744073709551616) : money_Sum.l0 (k + 1) l n i h lo = some (fit s) := by
  rw [money_Sum.l0, if_neg hi]
  rcases sum_arith l0 l1 with ⟨e, hb⟩ | ⟨e, hb⟩
  · rw [e, if_pos l0]
    by_cases hz : h = 0
    · have es : s = lo := by rw [← he, hz]; omega
      have hf : In64 s := by rw [es]; exact ⟨by omega, by omega⟩
      have hn : ¬ lo < 0 := by omega
      rw [if_pos hz, if_neg hn, fit_in hf, es]
    · rw [if_neg hz, ← he, fit_out (sum_a1 l0 hb hz)]
  · have h1 : ¬ (lo - 18446744073709551616 ≥ 0) := by omega
    have h2 : lo - 18446744073709551616 < 0 := by omega
    rw [e, if_neg h1, if_pos h2]
    by_cases hz : h = -1
    · have es : s = lo - 18446744073709551616 := by rw [← he, hz]; omega
      have hf : In64 s := by rw [es]; exact ⟨by omega, by omega⟩
      rw [if_pos hz, fit_in hf, es]
    · rw [if_neg hz, ← he, fit_out (sum_a2 l1 hb hz)]
theorem sum_loop (l : List Int) (hl : l.length ≤ 1073741824) (ha : ∀ x ∈ l, In64 x) : ∀ (m i : Nat) (h lo : Int), i + m = l.length → h * 18446744073709551616 + lo = (l.take i).sum → 0 ≤ lo → lo < 18446744073709551616 → -(i : Int) ≤ h → h ≤ (i : Int) →
    money_Sum.l0 (m + 1) l (l.length : Int) (i : Int) h lo = some (fit l.sum) := by
  intro m
  induction m with
  | zero =>
    intro i h lo hi he l0 l1 h0 h1
    rw [List.take_of_length_le (by omega)] at he
    exact sum_end 0 l _ _ _ _ _ (by omega) he l0 l1
  | succ m ih =>
    intro i h lo hi he l0 l1 h0 h1
    have hlt : i < l.length := by omega
    have hx : In64 (l.getD i 0) := by rw [List.getD_eq_getElem?_getD, List.getElem?_eq_getElem hlt]; exact ha _ (List.getElem_mem hlt)
    obtain ⟨h', l', e1, e2, ⟨e3, e4⟩, e5, e6⟩ := wide_f (h := h) (l := lo) (a := l.getD i 0) (by omega) (by omega) l0 l1 hx
    have g1 : (i : Int) < (l.length : Int) := by omega
    have g0 : (0 : Int) ≤ (i : Int) := by omega
    have en : wrap64 ((i : Int) + 1) = ((i + 1 : Nat) : Int) := by rw [wrap_in (by unfold In64; omega)]; omega
    rw [money_Sum.l0, if_pos g1, if_pos g0, if_pos g1, rd_nat, e1, Option.bind_some, en]
    exact ih (i + 1) h' l' (by omega) (by rw [sum_next l i hlt, e2, he]) e3 e4 (by omega) (by omega)
theorem sum_f (l : List Int) (hl : l.length ≤ 1073741824) (ha : ∀ x ∈ l, In64 x) : money_Sum.f (l.length + 1) l = some (fit l.sum) :=
  sum_loop l hl ha l.length 0 0 0 (by omega) (by simp) (by omega) (by omega) (by omega) (by omega)
end Go.Proofs.Ytianljjmnpdkcaa.M
