/-
  A whole number's bytes, plainly, and how they are read; the program's functions come to these.
-/
import Derived.Test.YtgmfafmefafiiaaMx4
import Derived.Test.YtgmfafmefafiiaaPBits
namespace Go.Proofs.Ytgmfafmefafiiaa.Pure.Code
open Go.RowKit Go.Proofs.Ytgmfafmefafiiaa.M Go.Proofs.YtgmfafmefafiiaaW.PrintWords Go.Proofs.YtgmfafmefafiiaaW.PrintLast Go.Proofs.YtgmfafmefafiiaaW.PrintMore Go.Proofs.Ytgmfafmefafiiaa.Pure.Bits
/-- a natural number by sevens, the least first -/
def numB (u : Nat) : List Int := if u > 127 then ((u % 128 + 128 : Nat) : Int) :: numB (u / 128) else [(u : Int)]
termination_by u
decreasing_by omega
theorem numB_big {u : Nat} (h : u > 127) : numB u = ((u % 128 + 128 : Nat) : Int) :: numB (u / 128) := by rw [numB, if_pos h]
theorem numB_small {u : Nat} (h : ¬ u > 127) : numB u = [(u : Int)] := by rw [numB, if_neg h]
theorem numB_len : ∀ m u : Nat, u < 128 ^ (m + 1) → (numB u).length ≤ m + 1 := by
  intro m
  induction m with
  | zero => intro u h; rw [numB_small (by omega)]; simp
  | succ m ih =>
    intro u h
    by_cases h1 : u > 127
    · rw [numB_big h1, List.length_cons]
      have := ih (u / 128) (by rw [Nat.pow_succ] at h; omega)
      omega
    · rw [numB_small h1]; simp
theorem numB_len10 {u : Nat} (h : u < 2 ^ 64) : (numB u).length ≤ 10 := numB_len 9 u (by omega)
theorem num_l0 : ∀ (u : Nat), u < 2 ^ 64 → ∀ l : List Int, l.length + (numB u).length < 140737488355328 → Ev (fun k => code_Num.l0 k l (u : Int)) (l ++ numB u) := by
  intro u
  induction u using Nat.strongRecOn with
  | _ u ih =>
    intro hu l hl
    refine Ev.up ?_
    simp only [code_Num.l0]
    by_cases h : u > 127
    · rw [numB_big h] at hl ⊢
      rw [List.length_cons] at hl
      refine Ev.pos (by omega) (Ev.pos (by omega) ?_)
      have e1 : Go.bits .or .u8 ((u : Int) % 256) 128 = ((u % 128 + 128 : Nat) : Int) := by rw [or128 _ (by omega) (by omega)]; omega
      have e2 : (u : Int) / 128 = ((u / 128 : Nat) : Int) := by omega
      rw [e1, e2]
      have := ih (u / 128) (by omega) (by omega) (l ++ [((u % 128 + 128 : Nat) : Int)]) (by rw [List.length_append, List.length_singleton]; omega)
      rwa [List.append_assoc, List.singleton_append] at this
    · rw [numB_small h] at hl ⊢
      rw [List.length_singleton] at hl
      refine Ev.neg (by omega) (Ev.pos (by omega) (Ev.some_ ?_))
      rw [show (u : Int) % 256 = (u : Int) by omega]
def enc (n : Int) : List Int := numB (zig n)
def I64 (n : Int) : Prop := -9223372036854775808 ≤ n ∧ n ≤ 9223372036854775807
theorem enc_len {n : Int} (h : I64 n) : (enc n).length ≤ 10 := numB_len10 (zig_lt n h.1 h.2)
theorem num_ev (l : List Int) (n : Int) (h : I64 n) (hl : l.length < 140737488355300) : Ev (fun k => code_Num.f k l n) (l ++ enc n) := by
  unfold code_Num.f
  rw [zig_code n h.1 h.2]
  have := enc_len h
  unfold enc at this
  exact num_l0 _ (zig_lt n h.1 h.2) l (by omega)
/-- how a number is read: how many bytes are taken, the error, the number as it is coded -/
def scan : List Int → Nat → Nat → Nat × Int × Nat
  | [], _, _ => (0, 40, 0)
  | x :: s, i, u =>
    if (9 ≤ i ∧ x > 1) ∨ (0 < i ∧ x = 0) then (1, 41, 0)
    else if x < 128 then (1, 0, u + (x % 128).toNat * 128 ^ i)
    else ((scan s (i + 1) (u + (x % 128).toNat * 128 ^ i)).1 + 1, (scan s (i + 1) (u + (x % 128).toNat * 128 ^ i)).2)
theorem pow128 (i : Nat) : 128 ^ i = 2 ^ (7 * i) := by rw [show (128 : Nat) = 2 ^ 7 from rfl, ← Nat.pow_mul]
theorem digit {u i : Nat} {x : Int} (hi : i ≤ 9) (hu : u < 128 ^ i) (h0 : 0 ≤ x) (h1 : x < 256) (h9 : i = 9 → x ≤ 1) :
    Go.bits .or .u64 (u : Int) (shl .u64 (IntKind.u64.wrap (Go.bits .and .u8 x 127)) ((7 * i : Nat) : Int)) = ((u + (x % 128).toNat * 128 ^ i : Nat) : Int) ∧ u + (x % 128).toNat * 128 ^ i < 2 ^ 64 := by
  rw [and127 x h0 h1, wraps64 _ (by omega) (by omega)]
  obtain ⟨y, hy⟩ : ∃ y : Nat, x % 128 = (y : Int) := ⟨(x % 128).toNat, by omega⟩
  have hyl : y < 128 := by omega
  have hp : 128 ^ i = 2 ^ (7 * i) := pow128 i
  have hb : y * 128 ^ i + 128 ^ i ≤ 2 ^ 64 := by
    by_cases h : i = 9
    · have : y ≤ 1 := by have := h9 h; omega
      have e9 : (128 : Nat) ^ i = 9223372036854775808 := by rw [h]
      rw [e9]
      omega
    · have h2 : 128 ^ (i + 1) ≤ 128 ^ 9 := Nat.pow_le_pow_right (by decide) (by omega)
      have h3 : (y + 1) * 128 ^ i ≤ 128 * 128 ^ i := Nat.mul_le_mul_right _ (by omega)
      rw [Nat.add_mul, Nat.one_mul] at h3
      rw [Nat.pow_succ] at h2
      omega
  rw [hy]
  simp only [Int.toNat_natCast]
  have e1 : shl .u64 (y : Int) ((7 * i : Nat) : Int) = ((y * 128 ^ i : Nat) : Int) := by
    unfold shl
    rw [Int.toNat_natCast, show min (7 * i) (IntKind.bits .u64) = 7 * i from Nat.min_eq_left (by show 7 * i ≤ 64; omega), wu64, hp]
    have : ((y : Int) * 2 ^ (7 * i)) = ((y * 2 ^ (7 * i) : Nat) : Int) := by simp
    rw [this]
    rw [hp] at hb
    omega
  rw [e1]
  refine ⟨?_, by omega⟩
  rw [join _ _ (7 * i) (by omega) ?_ (by omega) (by omega) ?_ (by omega)]
  · omega
  · rw [hp]
    have : (((y * 2 ^ (7 * i) : Nat) : Int)) % (2 ^ (7 * i) : Int) = ((y * 2 ^ (7 * i) % 2 ^ (7 * i) : Nat) : Int) := by simp
    rw [this, Nat.mul_mod_left]
    rfl
  · rw [hp] at hu
    exact_mod_cast hu
def Bytes (l : List Int) : Prop := ∀ x ∈ l, 0 ≤ x ∧ x < 256
/-- what a number's reading comes to -/
def rdNum (l : List Int) (at_ : Nat) : Int × Nat × Int := let r := scan (l.drop at_) 0 0; (if r.2.1 = 0 then unzig r.2.2 else 0, at_ + r.1, r.2.1)
theorem byte_end (l : List Int) : code_Reader_byte.f l (l.length : Int) 0 = some (0, (l.length : Int), 40) := by
  simp [code_Reader_byte.f, code_Reader_fail.f]
theorem byte_at {l : List Int} {a : Nat} (h : a < l.length) (hl : l.length < 4611686018427387904) : code_Reader_byte.f l (a : Int) 0 = some (l[a], ((a + 1 : Nat) : Int), 0) := by
  have e1 : wrap64 ((a : Int) + 1) = ((a + 1 : Nat) : Int) := by unfold wrap64; omega
  have e2 : wrap64 (((a + 1 : Nat) : Int) - 1) = (a : Int) := by unfold wrap64; omega
  unfold code_Reader_byte.f
  rw [if_pos rfl, if_neg (by omega), e1, e2, if_pos (by omega), if_pos (by omega)]
  simp [rd, h]
theorem num_scan {l : List Int} (hl : l.length < 4611686018427387904) (hb : Bytes l) : ∀ d a i u : Nat, a + d = l.length → i ≤ 9 → u < 128 ^ i →
    Ev (fun k => code_Reader_Num.l0 k (u : Int) ((7 * i : Nat) : Int) l (a : Int) 0) (if (scan (l.drop a) i u).2.1 = 0 then unzig (scan (l.drop a) i u).2.2 else 0, ((a + (scan (l.drop a) i u).1 : Nat) : Int), (scan (l.drop a) i u).2.1) := by
  intro d
  induction d with
  | zero =>
    intro a i u ha hi hu
    refine Ev.up ?_
    simp only [code_Reader_Num.l0]
    have e : a = l.length := by omega
    subst e
    rw [byte_end]
    refine Ev.let_ (Ev.neg (by simp) (Ev.some_ ?_))
    simp [scan]
  | succ d ih =>
    intro a i u ha hi hu
    have hlt : a < l.length := by omega
    refine Ev.up ?_
    simp only [code_Reader_Num.l0]
    rw [byte_at hlt hl]
    refine Ev.let_ (Ev.pos rfl ?_)
    rw [List.drop_eq_getElem_cons hlt]
    obtain ⟨x, hx⟩ : ∃ x, x = l[a] := ⟨_, rfl⟩
    rw [← hx]
    have hxb : 0 ≤ x ∧ x < 256 := by rw [hx]; exact hb _ (List.getElem_mem hlt)
    have bad : (9 ≤ i ∧ x > 1) ∨ (0 < i ∧ x = 0) → Ev (fun k => code_Reader_Num.j1 k (u : Int) ((7 * i : Nat) : Int) x true l ((a + 1 : Nat) : Int) 0) (if (scan (x :: l.drop (a + 1)) i u).2.1 = 0 then unzig (scan (x :: l.drop (a + 1)) i u).2.2 else 0, ((a + (scan (x :: l.drop (a + 1)) i u).1 : Nat) : Int), (scan (x :: l.drop (a + 1)) i u).2.1) := by
      intro h
      refine Ev.up ?_
      simp only [code_Reader_Num.j1]
      refine Ev.pos trivial (Ev.congr (fun _ => ?_) (Ev.now _))
      simp only [scan, if_pos h]
      simp [code_Reader_fail.f]
    have good : ¬ ((9 ≤ i ∧ x > 1) ∨ (0 < i ∧ x = 0)) → Ev (fun k => code_Reader_Num.j1 k (u : Int) ((7 * i : Nat) : Int) x false l ((a + 1 : Nat) : Int) 0) (if (scan (x :: l.drop (a + 1)) i u).2.1 = 0 then unzig (scan (x :: l.drop (a + 1)) i u).2.2 else 0, ((a + (scan (x :: l.drop (a + 1)) i u).1 : Nat) : Int), (scan (x :: l.drop (a + 1)) i u).2.1) := by
      intro h
      obtain ⟨e1, e2⟩ := digit hi hu hxb.1 hxb.2 (fun h9 => by omega)
      refine Ev.up ?_
      simp only [code_Reader_Num.j1]
      rw [e1]
      refine Ev.neg (by simp) (Ev.pos (by omega) ?_)
      simp only [scan, if_neg h]
      by_cases hx2 : x < 128
      · refine Ev.pos hx2 (Ev.some_ ?_)
        simp only [if_pos hx2]
        rw [unzig_code _ e2]
        simp
      · refine Ev.neg hx2 ?_
        simp only [if_neg hx2]
        have e3 : wrap64 (((7 * i : Nat) : Int) + 7) = ((7 * (i + 1) : Nat) : Int) := by unfold wrap64; omega
        rw [e3]
        have hlt9 : i ≠ 9 := by omega
        have hd : (x % 128).toNat < 128 := by omega
        have hu2 : u + (x % 128).toNat * 128 ^ i < 128 ^ (i + 1) := by
          rw [Nat.pow_succ]
          have h3 : ((x % 128).toNat + 1) * 128 ^ i ≤ 128 * 128 ^ i := Nat.mul_le_mul_right _ (by omega)
          rw [Nat.add_mul, Nat.one_mul] at h3
          omega
        refine (ih (a + 1) (i + 1) (u + (x % 128).toNat * 128 ^ i) (by omega) (by omega) hu2).eq ?_
        congr 2
        omega
    refine Ev.neg (by omega) ?_
    by_cases h9 : i = 9
    · refine Ev.pos (by omega) ?_
      by_cases hx1 : x > 1
      · exact Ev.pos hx1 (bad (by omega))
      · refine Ev.neg hx1 (Ev.pos (by omega) ?_)
        by_cases hx0 : x = 0
        · rw [show (x == 0) = true by simp [hx0]]; exact bad (by omega)
        · rw [show (x == 0) = false by simp [hx0]]; exact good (by omega)
    · refine Ev.neg (by omega) ?_
      by_cases hi0 : i = 0
      · refine Ev.neg (by omega) (good (by omega))
      · refine Ev.pos (by omega) ?_
        by_cases hx0 : x = 0
        · rw [show (x == 0) = true by simp [hx0]]; exact bad (by omega)
        · rw [show (x == 0) = false by simp [hx0]]; exact good (by omega)
theorem rd_num_ev {l : List Int} (hl : l.length < 4611686018427387904) (hb : Bytes l) {a : Nat} (ha : a ≤ l.length) : Ev (fun k => code_Reader_Num.f k l (a : Int) 0) ((rdNum l a).1, ((rdNum l a).2.1 : Int), (rdNum l a).2.2) := by
  unfold code_Reader_Num.f
  exact num_scan hl hb (l.length - a) a 0 0 (by omega) (by omega) (by omega)
theorem rd_num_bad {l : List Int} {a e : Int} (he : e ≠ 0) : Ev (fun k => code_Reader_Num.f k l a e) (0, a, e) := by
  unfold code_Reader_Num.f
  refine Ev.up ?_
  simp only [code_Reader_Num.l0, code_Reader_byte.f, if_neg he]
  exact Ev.let_ (Ev.neg he (Ev.now _))
/-- a number that was written is read as it was, with what is behind it -/
theorem scan_numB : ∀ u : Nat, ∀ (rest : List Int) (i v : Nat), u * 128 ^ i < 2 ^ 64 → (0 < i → 0 < u) → scan (numB u ++ rest) i v = ((numB u).length, 0, v + u * 128 ^ i) := by
  intro u
  induction u using Nat.strongRecOn with
  | _ u ih =>
    intro rest i v hu h0
    have hp : 0 < 128 ^ i := Nat.two_pow_pos 0 |> fun _ => Nat.pow_pos (by decide)
    by_cases h : u > 127
    · rw [numB_big h, List.cons_append]
      have hi : i < 9 := by
        rcases Nat.lt_or_ge i 9 with h9 | h9
        · exact h9
        · have h1 : 128 ^ 9 ≤ 128 ^ i := Nat.pow_le_pow_right (by decide) h9
          have h2 : 128 * 128 ^ i ≤ u * 128 ^ i := Nat.mul_le_mul_right _ (by omega)
          have e9 : (128 : Nat) ^ 9 = 9223372036854775808 := by rfl
          omega
      have hn : ¬ ((9 ≤ i ∧ ((u % 128 + 128 : Nat) : Int) > 1) ∨ (0 < i ∧ ((u % 128 + 128 : Nat) : Int) = 0)) := by omega
      have e1 : (((u % 128 + 128 : Nat) : Int) % 128).toNat = u % 128 := by omega
      have hm : u / 128 * 128 ^ (i + 1) + u % 128 * 128 ^ i = u * 128 ^ i := by
        rw [Nat.pow_succ, Nat.mul_comm (128 ^ i) 128, ← Nat.mul_assoc, ← Nat.add_mul]
        congr 1
        omega
      have h2 := ih (u / 128) (by omega) rest (i + 1) (v + u % 128 * 128 ^ i) (by omega) (by omega)
      simp only [scan]
      rw [if_neg hn, if_neg (by omega), e1, h2]
      simp only [List.length_cons]
      refine Prod.ext rfl (Prod.ext rfl ?_)
      show v + u % 128 * 128 ^ i + u / 128 * 128 ^ (i + 1) = v + u * 128 ^ i
      omega
    · rw [numB_small h, List.cons_append, List.nil_append]
      have hn : ¬ ((9 ≤ i ∧ (u : Int) > 1) ∨ (0 < i ∧ (u : Int) = 0)) := by
        intro hh
        rcases hh with ⟨h9, h1⟩ | ⟨h9, h1⟩
        · have h2 : 128 ^ 9 ≤ 128 ^ i := Nat.pow_le_pow_right (by decide) h9
          have h3 : 2 * 128 ^ i ≤ u * 128 ^ i := Nat.mul_le_mul_right _ (by omega)
          have e9 : (128 : Nat) ^ 9 = 9223372036854775808 := by rfl
          omega
        · have := h0 h9
          omega
      simp only [scan]
      rw [if_neg hn, if_pos (by omega)]
      have e1 : ((u : Int) % 128).toNat = u := by omega
      rw [e1]
      rfl
theorem scan_enc {n : Int} (h : I64 n) (rest : List Int) : scan (enc n ++ rest) 0 0 = ((enc n).length, 0, zig n) := by
  have := scan_numB (zig n) rest 0 0 (by have := zig_lt n h.1 h.2; simpa using this) (fun h => absurd h (by omega))
  simpa [enc] using this
end Go.Proofs.Ytgmfafmefafiiaa.Pure.Code
