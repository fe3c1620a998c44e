/-
  contraref03.Of, the long division of bits: what it leaves is the plain check, for every text (of at most a few gigabytes).
-/
import Derived.Test.YthpdmjpimeibnaaMx6
import Derived.Test.YthpdmjpimeibnaaPCrc6
import Derived.Test.YthpdmjpimeibnaaPStr
namespace Go.Proofs.Ythpdmjpimeibnaa.Pure
open Go.RowKit Go.Proofs.Ythpdmjpimeibnaa.M Go.Proofs.YthpdmjpimeibnaaW.PrintWords Go.Proofs.YthpdmjpimeibnaaW.PrintLast Go.Proofs.YthpdmjpimeibnaaW.PrintMore
namespace Ref03
open Crc (W poly stp feed feeds allBits byteBits bitsOf run crc)
def Small (n : Nat) : Prop := n ≤ 4294967296
theorem bit_of (x : Int) (hx : IsByte x) (j : Nat) (hj : j < 8) : ((Int.tmod (shr .u8 x (j : Int)) 2) == 1) = (BitVec.ofInt 32 x).getLsbD j := by
  obtain ⟨m, rfl⟩ := Int.eq_ofNat_of_zero_le hx.1
  have hm : m < 256 := by have := hx.2; omega
  have hs : shr .u8 (m : Int) (j : Int) = ((m / 2 ^ j : Nat) : Int) := by
    unfold shr
    rw [Int.toNat_natCast, show min j IntKind.u8.bits = j from Nat.min_eq_left (by show j ≤ 8; omega)]
    have h2 : ((2 : Int) ^ j) = ((2 ^ j : Nat) : Int) := by push_cast; rfl
    rw [h2]
    rfl
  rw [hs, Int.tmod_eq_emod_of_nonneg (Int.natCast_nonneg _)]
  simp only [BitVec.ofInt_natCast, BitVec.getLsbD, BitVec.toNat_ofNat]
  rw [Nat.mod_eq_of_lt (by omega), Nat.testBit_eq_decide_div_mod_eq]
  generalize m / 2 ^ j = q
  rw [Bool.eq_iff_iff, beq_iff_eq, decide_eq_true_eq]
  omega
/-- a bit turned -/
def tog (B : List Bool) (q : Nat) : List Bool := B.set q (!(B.getD q false))
theorem tog_length (B : List Bool) (q : Nat) : (tog B q).length = B.length := by simp [tog]
theorem tog_get (B : List Bool) (q p : Nat) : (tog B q)[p]? = B[p]?.map fun b => b ^^ decide (p = q) := by
  unfold tog
  rw [List.getElem?_set]
  by_cases e : q = p
  · subst e
    by_cases h : q < B.length
    · simp [h, List.getD]
    · simp [h]
  · rw [if_neg e]
    have : ¬ p = q := fun h => e h.symm
    simp [this]
def togs (B : List Bool) (i : Nat) (P : List Nat) : List Bool := P.foldl (fun B p => tog B (i + p)) B
theorem togs_length : ∀ (P : List Nat) (B : List Bool) (i : Nat), (togs B i P).length = B.length
  | [], _, _ => rfl
  | p :: P, B, i => by
    show (togs (tog B (i + p)) i P).length = _
    rw [togs_length P, tog_length]
theorem togs_get : ∀ (P : List Nat) (B : List Bool) (i q : Nat), P.Nodup → (togs B i P)[q]? = B[q]?.map fun b => b ^^ decide (∃ p ∈ P, q = i + p)
  | [], B, i, q, _ => by simp [togs]
  | p :: P, B, i, q, hn => by
    obtain ⟨hp, hn⟩ := List.nodup_cons.1 hn
    show (togs (tog B (i + p)) i P)[q]? = _
    rw [togs_get P _ i q hn, tog_get, Option.map_map]
    congr 1
    funext b
    show ((b ^^ decide (q = i + p)) ^^ decide (∃ p ∈ P, q = i + p)) = _
    rw [Bool.xor_assoc]
    congr 1
    by_cases e : q = i + p
    · have h1 : ¬ ∃ p' ∈ P, q = i + p' := by
        rintro ⟨p', hp', e'⟩
        have : p' = p := by omega
        exact hp (this ▸ hp')
      have h2 : ∃ p' ∈ p :: P, q = i + p' := ⟨p, List.mem_cons_self, e⟩
      simp only [e, decide_true] at h1 h2 ⊢
      rw [decide_eq_false h1, decide_eq_true h2]
      rfl
    · have : (∃ p' ∈ p :: P, q = i + p') ↔ ∃ p' ∈ P, q = i + p' := by
        constructor
        · rintro ⟨p', hp', e'⟩
          rcases List.mem_cons.1 hp' with rfl | h
          · exact absurd e' e
          · exact ⟨p', h, e'⟩
        · rintro ⟨p', h, e'⟩
          exact ⟨p', List.mem_cons_of_mem _ h, e'⟩
      rw [decide_eq_false e, decide_eq_decide.mpr this, Bool.false_xor]
def powers : List Nat := [0, 6, 9, 10, 16, 20, 21, 22, 24, 25, 27, 28, 30, 31, 32]
theorem powers_poly (j : Nat) (hj : j < 32) : decide ((j + 1) ∈ powers) = poly.getLsbD j := by
  have : ∀ j : Fin 32, decide ((j.val + 1) ∈ powers) = poly.getLsbD j.val := by decide
  exact this ⟨j, hj⟩
/-- The window at i: the register, and what is still to come. -/
def Win (D B : List Bool) (i : Nat) (n : W) : Prop := B.length = D.length ∧ (∀ j, j < 32 → B[i + j]? = D[i + j]?.map fun b => b ^^ n.getLsbD j) ∧ ∀ p, i + 32 ≤ p → B[p]? = D[p]?
theorem Win.step {D B : List Bool} {i : Nat} {n : W} (h : Win D B i n) (_hi : i + 32 < D.length) {x : Bool} (hx : D[i]? = some x) :
    Win D (if B.getD i false then togs B i powers else B) (i + 1) (feed n x) ∧ B.getD i false = (n.getLsbD 0 ^^ x) := by
  obtain ⟨h1, h2, h3⟩ := h
  have hf : B.getD i false = (n.getLsbD 0 ^^ x) := by
    have := h2 0 (by decide)
    rw [Nat.add_zero, hx] at this
    rw [List.getD_eq_getElem?_getD, this]
    show (x ^^ n.getLsbD 0) = _
    rw [Bool.xor_comm]
  refine ⟨?_, hf⟩
  have key : ∀ q, (if B.getD i false then togs B i powers else B)[q]? = B[q]?.map fun b => b ^^ (B.getD i false && decide (∃ p ∈ powers, q = i + p)) := by
    intro q
    cases hB : B.getD i false
    · simp
    · rw [if_pos rfl, togs_get _ _ _ _ (by decide)]
      rfl
  refine ⟨?_, fun j hj => ?_, fun p hp => ?_⟩
  · cases B.getD i false
    · exact h1
    · rw [if_pos rfl, togs_length, h1]
  · rw [key]
    have hm : (n ^^^ (if x then 1#32 else 0#32)).getLsbD 0 = B.getD i false := by
      rw [hf, BitVec.getLsbD_xor]
      cases x <;> rfl
    have hm2 : (n ^^^ (if x then 1#32 else 0#32)).getLsbD (j + 1) = n.getLsbD (j + 1) := by
      rw [BitVec.getLsbD_xor]
      cases x
      · simp
      · simp only [if_true, BitVec.getLsbD_one]
        simp
    have hp : decide (∃ p ∈ powers, i + 1 + j = i + p) = poly.getLsbD j := by
      rw [← powers_poly j hj]
      refine decide_eq_decide.mpr ⟨?_, fun h => ⟨_, h, by omega⟩⟩
      rintro ⟨p, hp, e⟩
      have : p = j + 1 := by omega
      exact this ▸ hp
    rw [hp]
    have hfd : (feed n x).getLsbD j = ((n.getLsbD (j + 1) && decide (j < 31)) ^^ (B.getD i false && poly.getLsbD j)) := by
      unfold feed
      rw [Crc.stp_get, hm, hm2]
    rw [hfd]
    by_cases h31 : j < 31
    · have := h2 (j + 1) (by omega)
      have e : i + 1 + j = i + (j + 1) := by omega
      rw [e, this, Option.map_map]
      congr 1
      funext b
      simp only [Function.comp, decide_eq_true h31, Bool.and_true]
      rw [Bool.xor_assoc]
    · have e : j = 31 := by omega
      subst e
      have := h3 (i + 1 + 31) (by omega)
      rw [this]
      congr 1
      funext b
      rw [decide_eq_false h31, Bool.and_false, Bool.false_xor]
  · rw [key, h3 p (by omega)]
    have : decide (∃ q ∈ powers, p = i + q) = false := by
      apply decide_eq_false
      rintro ⟨q, hq, e⟩
      have : q ≤ 32 := by
        have : ∀ q ∈ powers, q ≤ 32 := by decide
        exact this q hq
      omega
    rw [this]
    simp
/-! the loops -/
theorem l6_ev (B : List Bool) (n : W) (L : Nat) (hL : B.length = L + 32) (hs : Small L) (hB : ∀ j, j < 32 → B[L + j]? = some (n.getLsbD j)) (d : Nat) : ∀ (j : Nat), j + d = 32 →
    Ev (fun k => contraref03_Of.l6 k B (((~~~ n).toNat % 2 ^ j : Nat) : Int) (j : Int)) ((~~~ n).toNat : Int) := by
  induction d with
  | zero =>
    intro j hj
    have e : j = 32 := by omega
    subst e
    refine Ev.up ?_
    simp only [contraref03_Of.l6]
    refine Ev.neg (by decide) (Ev.some_ ?_)
    rw [Nat.mod_eq_of_lt (~~~ n).isLt]
  | succ d ih =>
    intro j hj
    have hj32 : j < 32 := by omega
    unfold Small at hs
    refine Ev.up ?_
    simp only [contraref03_Of.l6]
    have e1 : wrap64 ((B.length : Int) - 32) = (L : Int) := by rw [w64 (by omega) (by omega)]; omega
    have e2 : wrap64 ((L : Int) + (j : Int)) = ((L + j : Nat) : Int) := by rw [w64 (by omega) (by omega)]; omega
    have e3 : wrap64 ((j : Int) + 1) = ((j + 1 : Nat) : Int) := by rw [w64 (by omega) (by omega)]; omega
    rw [e1, e2, e3]
    refine Ev.pos (by omega) (Ev.pos (by omega) (Ev.pos (by omega) ?_))
    have er : rdOf false B ((L + j : Nat) : Int) = n.getLsbD j := by
      unfold rdOf
      rw [Int.toNat_natCast, List.getD_eq_getElem?_getD, hB j hj32]
      rfl
    rw [er]
    have hm : (~~~ n).toNat % 2 ^ (j + 1) = (~~~ n).toNat % 2 ^ j + 2 ^ j * ((~~~ n).toNat.testBit j).toNat := by
      rw [Nat.mod_pow_succ, Nat.testBit_eq_decide_div_mod_eq]
      congr 2
      have : (~~~ n).toNat / 2 ^ j % 2 < 2 := Nat.mod_lt _ (by decide)
      generalize (~~~ n).toNat / 2 ^ j % 2 = q at *
      have : q = 0 ∨ q = 1 := by omega
      rcases this with rfl | rfl <;> rfl
    have hbit : (~~~ n).toNat.testBit j = !(n.getLsbD j) := by
      have : (~~~ n).getLsbD j = !(n.getLsbD j) := by
        rw [BitVec.getLsbD_not]
        simp [hj32]
      rw [← this]
      rfl
    rw [hbit] at hm
    have hi := ih (j + 1) (by omega)
    cases hn : n.getLsbD j
    · refine Ev.neg (by decide) (Ev.pos (by omega) ?_)
      rw [hn] at hm
      have hp : 2 ^ j < 2 ^ 32 := Nat.pow_lt_pow_right (by decide) hj32
      have hlt : (~~~ n).toNat % 2 ^ j < 2 ^ j := Nat.mod_lt _ (Nat.two_pow_pos j)
      have hsh : shl .i64 1 (j : Int) = ((2 ^ j : Nat) : Int) := by
        unfold shl
        rw [Int.toNat_natCast, show min j IntKind.i64.bits = j from Nat.min_eq_left (by show j ≤ 64; omega), IntKind.wrap_i64]
        have h2 : ((2 : Int) ^ j) = ((2 ^ j : Nat) : Int) := by push_cast; rfl
        rw [h2, Int.one_mul]
        generalize 2 ^ j = q at *
        omega
      rw [hsh]
      have e4 : wrap64 ((((~~~ n).toNat % 2 ^ j : Nat) : Int) + ((2 ^ j : Nat) : Int)) = (((~~~ n).toNat % 2 ^ (j + 1) : Nat) : Int) := by
        rw [hm]
        generalize (~~~ n).toNat % 2 ^ j = a at *
        generalize 2 ^ j = q at *
        rw [w64 (by omega) (by omega)]
        simp
      rw [e4]
      exact hi
    · refine Ev.pos rfl ?_
      rw [hn] at hm
      have e4 : (~~~ n).toNat % 2 ^ (j + 1) = (~~~ n).toNat % 2 ^ j := by rw [hm]; simp
      rw [← e4]
      exact hi
theorem l5_ev (x9 : Nat) (L : Nat) (hs : Small L) (r : Int) (d : Nat) : ∀ (t : Nat) (B : List Bool), t + d = 15 → B.length = L + 32 → x9 < L →
    Ev (fun k => contraref03_Of.l4 k (togs B x9 (powers.drop t)) [0, 6, 9, 10, 16, 20, 21, 22, 24, 25, 27, 28, 30, 31, 32] (wrap64 ((x9 : Int) + 1))) r →
    Ev (fun k => contraref03_Of.l5 k B [0, 6, 9, 10, 16, 20, 21, 22, 24, 25, 27, 28, 30, 31, 32] (x9 : Int) (t : Int)) r := by
  induction d with
  | zero =>
    intro t B ht hB hx h
    have e : t = 15 := by omega
    subst e
    refine Ev.up ?_
    simp only [contraref03_Of.l5]
    exact Ev.neg (by decide) h
  | succ d ih =>
    intro t B ht hB hx h
    unfold Small at hs
    refine Ev.up ?_
    simp only [contraref03_Of.l5]
    have htl : t < 15 := by omega
    have hp : ∃ p, powers[t]? = some p ∧ p ≤ 32 ∧ rd [0, 6, 9, 10, 16, 20, 21, 22, 24, 25, 27, 28, 30, 31, 32] (t : Int) = (p : Int) := by
      have : ∀ t : Fin 15, ∃ p, powers[t.val]? = some p ∧ p ≤ 32 ∧ rd [0, 6, 9, 10, 16, 20, 21, 22, 24, 25, 27, 28, 30, 31, 32] (t.val : Int) = (p : Int) := by
        intro ⟨t, ht⟩
        rcases t with _ | _ | _ | _ | _ | _ | _ | _ | _ | _ | _ | _ | _ | _ | _ | t <;> first | exact ⟨_, rfl, by decide, rfl⟩ | omega
      exact this ⟨t, htl⟩
    obtain ⟨p, hp1, hp2, hp3⟩ := hp
    rw [hp3]
    have e2 : wrap64 ((x9 : Int) + (p : Int)) = ((x9 + p : Nat) : Int) := by rw [w64 (by omega) (by omega)]; omega
    have e3 : wrap64 ((t : Int) + 1) = ((t + 1 : Nat) : Int) := by rw [w64 (by omega) (by omega)]; omega
    rw [e2, e3]
    refine Ev.pos (by simp; omega) (Ev.pos (by omega) (Ev.pos (by omega) (Ev.pos (by omega) ?_)))
    have hd : powers.drop t = p :: powers.drop (t + 1) := by
      obtain ⟨hlt, he⟩ := List.getElem?_eq_some_iff.1 hp1
      rw [← he]
      exact List.drop_eq_getElem_cons hlt
    rw [hd] at h
    rw [Int.toNat_natCast]
    have er : rdOf false B ((x9 + p : Nat) : Int) = B.getD (x9 + p) false := by
      unfold rdOf
      rw [Int.toNat_natCast]
    rw [er]
    exact ih (t + 1) (tog B (x9 + p)) (by omega) (by rw [tog_length]; exact hB) hx h
theorem l4_ev (D : List Bool) (L : Nat) (hD : D.length = L + 32) (hs : Small L) (hz : ∀ j, j < 32 → D[L + j]? = some false) (d : Nat) : ∀ (i : Nat) (B : List Bool) (n : W), i + d = L → Win D B i n →
    Ev (fun k => contraref03_Of.l4 k B [0, 6, 9, 10, 16, 20, 21, 22, 24, 25, 27, 28, 30, 31, 32] (i : Int)) ((~~~ (feeds n ((D.take L).drop i))).toNat : Int) := by
  induction d with
  | zero =>
    intro i B n hi h
    have e : i = L := by omega
    subst e
    have hB : B.length = i + 32 := by rw [h.1, hD]
    have hdr : (D.take i).drop i = [] := by simp
    rw [hdr]
    refine Ev.up ?_
    simp only [contraref03_Of.l4]
    have hs' := hs
    unfold Small at hs'
    have e1 : wrap64 ((i : Int) + 32) = ((i + 32 : Nat) : Int) := by rw [w64 (by omega) (by omega)]; omega
    rw [e1]
    refine Ev.neg (by omega) ?_
    have h6 := l6_ev B n i hB hs (fun j hj => by rw [h.2.1 j hj, hz j hj]; simp) 32 0 rfl
    rw [Nat.pow_zero, Nat.mod_one] at h6
    exact h6
  | succ d ih =>
    intro i B n hi h
    have hiL : i < L := by omega
    have hB : B.length = L + 32 := by rw [h.1, hD]
    have hx : D[i]? = some (D[i]'(by omega)) := List.getElem?_eq_getElem (by omega)
    obtain ⟨hw, hf⟩ := h.step (by omega) hx
    have hdr : (D.take L).drop i = D[i]'(by omega) :: (D.take L).drop (i + 1) := by
      have := List.drop_eq_getElem_cons (l := D.take L) (i := i) (by rw [List.length_take]; omega)
      rw [this, List.getElem_take]
    rw [hdr]
    have hi1 := ih (i + 1) _ _ (by omega) hw
    refine Ev.up ?_
    simp only [contraref03_Of.l4]
    have hs' := hs
    unfold Small at hs'
    have e1 : wrap64 ((i : Int) + 32) = ((i + 32 : Nat) : Int) := by rw [w64 (by omega) (by omega)]; omega
    have e3 : wrap64 ((i : Int) + 1) = ((i + 1 : Nat) : Int) := by rw [w64 (by omega) (by omega)]; omega
    rw [e1]
    refine Ev.pos (by omega) (Ev.pos (by omega) (Ev.pos (by omega) ?_))
    have er : rdOf false B (i : Int) = B.getD i false := by
      unfold rdOf
      rw [Int.toNat_natCast]
    rw [er]
    cases hb : B.getD i false
    · refine Ev.neg (by decide) ?_
      rw [e3]
      rw [hb, if_neg (by decide)] at hi1
      exact hi1
    · refine Ev.pos rfl ?_
      rw [hb, if_pos rfl] at hi1
      have h5 := l5_ev i L hs ((~~~ (feeds (feed n (D[i]'(by omega))) ((D.take L).drop (i + 1)))).toNat : Int) 15 0 B rfl hB hiL (by rw [e3]; exact hi1)
      exact h5
theorem l3_ev (r : Int) (L : Nat) (d : Nat) : ∀ (j : Nat) (B : List Bool), j + d = 32 → B.length = L + 32 →
    Ev (fun k => contraref03_Of.l4 k ((List.range' j d).foldl tog B) [0, 6, 9, 10, 16, 20, 21, 22, 24, 25, 27, 28, 30, 31, 32] 0) r → Ev (fun k => contraref03_Of.l3 k B (j : Int)) r := by
  induction d with
  | zero =>
    intro j B hj hB h
    refine Ev.up ?_
    simp only [contraref03_Of.l3]
    exact Ev.neg (by omega) h
  | succ d ih =>
    intro j B hj hB h
    refine Ev.up ?_
    simp only [contraref03_Of.l3]
    have e3 : wrap64 ((j : Int) + 1) = ((j + 1 : Nat) : Int) := by rw [w64 (by omega) (by omega)]; omega
    rw [e3]
    refine Ev.pos (by omega) (Ev.pos (by omega) (Ev.pos (by omega) ?_))
    rw [Int.toNat_natCast]
    have er : rdOf false B (j : Int) = B.getD j false := by
      unfold rdOf
      rw [Int.toNat_natCast]
    rw [er]
    refine ih (j + 1) (tog B j) (by omega) (by rw [tog_length]; exact hB) ?_
    rw [List.range'_succ] at h
    exact h
theorem togr_get (d : Nat) : ∀ (j : Nat) (B : List Bool) (q : Nat), ((List.range' j d).foldl tog B)[q]? = B[q]?.map fun b => b ^^ (decide (j ≤ q) && decide (q < j + d)) := by
  induction d with
  | zero =>
    intro j B q
    have : (decide (j ≤ q) && decide (q < j + 0)) = false := by
      by_cases h : j ≤ q
      · simp [h]
      · simp [h]
    simp only [this, Bool.xor_false, Option.map_id_fun', id_eq]
    rfl
  | succ d ih =>
    intro j B q
    rw [List.range'_succ, List.foldl_cons, ih, tog_get, Option.map_map]
    congr 1
    funext b
    show ((b ^^ decide (q = j)) ^^ _) = _
    rw [Bool.xor_assoc]
    congr 1
    by_cases e : q = j
    · subst e
      simp
    · rw [decide_eq_false e, Bool.false_xor]
      have h1 : decide (j + 1 ≤ q) = decide (j ≤ q) := decide_eq_decide.mpr (by omega)
      have h2 : decide (q < j + 1 + d) = decide (q < j + (d + 1)) := decide_eq_decide.mpr (by omega)
      rw [h1, h2]
theorem l2_ev (r : Int) (d : Nat) : ∀ (j : Nat) (B : List Bool), j + d = 32 → B.length + d < 140737488355328 →
    Ev (fun k => contraref03_Of.l3 k (B ++ List.replicate d false) 0) r → Ev (fun k => contraref03_Of.l2 k B (j : Int)) r := by
  induction d with
  | zero =>
    intro j B hj _ h
    refine Ev.up ?_
    simp only [contraref03_Of.l2]
    refine Ev.neg (by omega) ?_
    simpa using h
  | succ d ih =>
    intro j B hj hB h
    refine Ev.up ?_
    simp only [contraref03_Of.l2]
    have e3 : wrap64 ((j : Int) + 1) = ((j + 1 : Nat) : Int) := by rw [w64 (by omega) (by omega)]; omega
    rw [e3]
    refine Ev.pos (by omega) (Ev.pos (by omega) ?_)
    refine ih (j + 1) (B ++ [false]) (by omega) (by simp; omega) ?_
    rw [List.append_assoc]
    exact h
theorem l1_ev (s : ByteArray) (r : Int) (i : Nat) (hi : i < s.size) (hs : Small s.size) (d : Nat) : ∀ (j : Nat) (B : List Bool), j + d = 8 → B.length + d < 140737488355328 →
    Ev (fun k => contraref03_Of.l0 k s (B ++ (byteBits ((bs s)[i]'(by rw [bs_length]; exact hi))).drop j) ((i + 1 : Nat) : Int)) r → Ev (fun k => contraref03_Of.l1 k s B (i : Int) (j : Int)) r := by
  unfold Small at hs
  induction d with
  | zero =>
    intro j B hj _ h
    refine Ev.up ?_
    simp only [contraref03_Of.l1]
    refine Ev.neg (by omega) ?_
    have e3 : wrap64 ((i : Int) + 1) = ((i + 1 : Nat) : Int) := by rw [w64 (by omega) (by omega)]; omega
    rw [e3]
    rw [List.drop_eq_nil_of_le (by rw [Crc.byteBits_length]; omega), List.append_nil] at h
    exact h
  | succ d ih =>
    intro j B hj hB h
    refine Ev.up ?_
    simp only [contraref03_Of.l1]
    have e3 : wrap64 ((j : Int) + 1) = ((j + 1 : Nat) : Int) := by rw [w64 (by omega) (by omega)]; omega
    rw [e3]
    refine Ev.pos (by omega) (Ev.pos (by omega) (Ev.pos (by omega) (Ev.pos (by omega) (Ev.pos (by omega) ?_))))
    rw [bt_bs s i hi, bit_of _ (bs_byte s _ (List.getElem_mem _)) j (by omega)]
    refine ih (j + 1) _ (by omega) (by simp; omega) ?_
    have hg := Crc.byteBits_get ((bs s)[i]'(by rw [bs_length]; exact hi)) j (by omega)
    obtain ⟨hlt, he⟩ := List.getElem?_eq_some_iff.1 hg
    rw [List.drop_eq_getElem_cons hlt, he] at h
    rw [List.append_assoc]
    exact h
theorem l0_ev (s : ByteArray) (hs : Small s.size) (r : Int) (h : Ev (fun k => contraref03_Of.l2 k (allBits (bs s)) 0) r) (d : Nat) : ∀ (i : Nat), i + d = s.size →
    Ev (fun k => contraref03_Of.l0 k s (allBits ((bs s).take i)) (i : Int)) r := by
  have hs' := hs
  unfold Small at hs'
  induction d with
  | zero =>
    intro i hi
    refine Ev.up ?_
    simp only [contraref03_Of.l0]
    refine Ev.neg (by omega) ?_
    rw [List.take_of_length_le (by rw [bs_length]; omega)]
    exact h
  | succ d ih =>
    intro i hi
    have hlt : i < s.size := by omega
    refine Ev.up ?_
    simp only [contraref03_Of.l0]
    refine Ev.pos (by omega) ?_
    refine l1_ev s r i hlt hs 8 0 _ rfl (by rw [Crc.allBits_length, List.length_take]; omega) ?_
    have e : (bs s).take (i + 1) = (bs s).take i ++ [(bs s)[i]'(by rw [bs_length]; exact hlt)] := List.take_succ_eq_append_getElem (by rw [bs_length]; exact hlt)
    have hi1 := ih (i + 1) (by omega)
    rw [e, Crc.allBits_append] at hi1
    rw [List.drop_zero]
    have e2 : ∀ x, allBits [x] = byteBits x := fun x => by show byteBits x ++ [] = _; rw [List.append_nil]
    rw [e2] at hi1
    exact hi1
theorem of_ev (s : ByteArray) (hs : s.size ≤ 268435456) : Ev (fun k => contraref03_Of.f k s) ((crc 0#32 (bs s)).toNat : Int) := by
  have hlen : (allBits (bs s)).length = 8 * s.size := by rw [Crc.allBits_length, bs_length]
  have hD : (allBits (bs s) ++ List.replicate 32 false).length = 8 * s.size + 32 := by rw [List.length_append, hlen, List.length_replicate]
  have h4 := l4_ev (allBits (bs s) ++ List.replicate 32 false) (8 * s.size) hD (by unfold Small; omega) (fun j hj => by
    rw [List.getElem?_append_right (by omega), hlen, Nat.add_sub_cancel_left, List.getElem?_replicate, if_pos hj]) (8 * s.size) 0 ((List.range' 0 32).foldl tog (allBits (bs s) ++ List.replicate 32 false)) (~~~ 0#32) (by omega) (by
      refine ⟨?_, fun j hj => ?_, fun p hp => ?_⟩
      · have : ∀ (P : List Nat) (B : List Bool), (P.foldl tog B).length = B.length := by
          intro P
          induction P with
          | nil => intro B; rfl
          | cons p P ih => intro B; rw [List.foldl_cons, ih, tog_length]
        exact this _ _
      · rw [togr_get]
        congr 1
        funext b
        rw [BitVec.getLsbD_not]
        simp [hj]
      · rw [togr_get]
        have : (decide (0 ≤ p) && decide (p < 0 + 32)) = false := by simp; omega
        simp only [this, Bool.xor_false, Option.map_id_fun', id_eq])
  rw [List.drop_zero, List.take_left' hlen, ← Crc.run_feeds (bs s) _ (bs_byte s)] at h4
  have h3 := l3_ev _ (8 * s.size) 32 0 _ rfl hD h4
  have h2 := l2_ev _ 32 0 (allBits (bs s)) rfl (by omega) h3
  have h0 := l0_ev s (by unfold Small; omega) _ h2 s.size 0 (by omega)
  exact h0
end Ref03
end Go.Proofs.Ythpdmjpimeibnaa.Pure
