/-
  Bytes of which up to thirty-two bits in a row are turned have another check: for every list of bytes, every place and every pattern (more than 500 bytes are let go by the statement itself).
-/
import Derived.Test.YtipkgplkeebhkaaMx4
import Derived.Test.YtipkgplkeebhkaaPCrc
import Derived.Test.YtipkgplkeebhkaaPEv
namespace Go.Proofs.Ytipkgplkeebhkaa.Pure
open Go.RowKit Go.Proofs.Ytipkgplkeebhkaa.M Go.Proofs.YtipkgplkeebhkaaW.PrintWords Go.Proofs.YtipkgplkeebhkaaW.PrintLast Go.Proofs.YtipkgplkeebhkaaW.PrintMore
namespace Crc
theorem u8_flip (x : Int) (hx : Byte x) (r : Nat) (hr : r < 8) : Byte (Go.bits .xor .u8 x (shl .u8 1 (r : Int))) ∧
    ∀ i, i < 8 → (BitVec.ofInt 32 (Go.bits .xor .u8 x (shl .u8 1 (r : Int)))).getLsbD i = ((BitVec.ofInt 32 x).getLsbD i ^^ decide (i = r)) := by
  obtain ⟨m, rfl⟩ := Int.eq_ofNat_of_zero_le hx.1
  have hm : m < 256 := by have := hx.2; omega
  have hs : shl .u8 1 (r : Int) = ((2 ^ r : Nat) : Int) := by
    unfold shl
    rw [IntKind.wrap_u8, Int.toNat_natCast, show min r IntKind.u8.bits = r from Nat.min_eq_left (by show r ≤ 8; omega)]
    have : 2 ^ r < 256 := by have := Nat.pow_lt_pow_right (a := 2) (by decide) hr; simpa using this
    have h2 : ((2 : Int) ^ r) = ((2 ^ r : Nat) : Int) := by push_cast; rfl
    rw [h2, Int.one_mul]
    generalize 2 ^ r = q at *
    omega
  have hp : 2 ^ r < 256 := by have := Nat.pow_lt_pow_right (a := 2) (by decide) hr; simpa using this
  have hx : Go.bits .xor .u8 (m : Int) ((2 ^ r : Nat) : Int) = ((m ^^^ 2 ^ r : Nat) : Int) := by
    have e : Go.bits .xor .u8 (m : Int) ((2 ^ r : Nat) : Int) = IntKind.u8.wrap (((BitVec.ofInt 8 (m : Int) ^^^ BitVec.ofInt 8 ((2 ^ r : Nat) : Int)).toNat : Nat) : Int) := rfl
    rw [e, BitVec.ofInt_natCast, BitVec.ofInt_natCast, BitVec.toNat_xor, BitVec.toNat_ofNat, BitVec.toNat_ofNat, Nat.mod_eq_of_lt hm, Nat.mod_eq_of_lt (by simpa using hp), IntKind.wrap_u8]
    have : m ^^^ 2 ^ r < 2 ^ 8 := Nat.xor_lt_two_pow hm hp
    omega
  have hlt : m ^^^ 2 ^ r < 2 ^ 8 := Nat.xor_lt_two_pow hm hp
  rw [hs, hx]
  refine ⟨⟨Int.natCast_nonneg _, by omega⟩, fun i hi => ?_⟩
  simp only [BitVec.ofInt_natCast, BitVec.getLsbD, BitVec.toNat_ofNat]
  rw [Nat.mod_eq_of_lt (by omega), Nat.mod_eq_of_lt (by omega), Nat.testBit_xor, Nat.testBit_two_pow]
  congr 1
  exact decide_eq_decide.mpr ⟨fun h => h.symm, fun h => h.symm⟩
/-- What holds behind j rounds: the bits that were turned, and whether any was. -/
def Turned (l l' : List Int) (a j : Nat) (c : Nat → Bool) (t : Bool) : Prop :=
  l'.length = l.length ∧ (∀ x ∈ l', Byte x) ∧ (∀ p, p < 8 * l.length → (allBits l')[p]? = (allBits l)[p]?.map fun b => b ^^ (decide (a ≤ p) && decide (p < a + j) && c (p - a))) ∧
  (t = true → ∃ i, i < j ∧ a + i < 8 * l.length ∧ c i = true) ∧ (t = false → ∀ i, i < j → a + i < 8 * l.length → c i = false)
theorem Turned.start (l : List Int) (hb : ∀ x ∈ l, Byte x) (a : Nat) (c : Nat → Bool) : Turned l l a 0 c false := by
  refine ⟨rfl, hb, fun p _ => ?_, by simp, fun _ i hi => by omega⟩
  have : (decide (a ≤ p) && decide (p < a + 0) && c (p - a)) = false := by
    by_cases h : a ≤ p
    · simp [show ¬ p < a by omega]
    · simp [h]
  simp only [this, Bool.xor_false, Option.map_id_fun', id_eq]
theorem Turned.skip {l l' : List Int} {a j : Nat} {c : Nat → Bool} {t : Bool} (h : Turned l l' a j c t) (hc : c j = false) : Turned l l' a (j + 1) c t := by
  obtain ⟨h1, h2, h3, h4, h5⟩ := h
  refine ⟨h1, h2, fun p hp => ?_, fun ht => ?_, fun ht i hi hl => ?_⟩
  · rw [h3 p hp]
    congr 1
    funext b
    congr 1
    by_cases e : p = a + j
    · subst e
      simp [hc]
    · have : decide (p < a + (j + 1)) = decide (p < a + j) := decide_eq_decide.mpr (by omega)
      rw [this]
  · obtain ⟨i, hi, r⟩ := h4 ht
    exact ⟨i, by omega, r⟩
  · by_cases e : i = j
    · subst e; exact hc
    · exact h5 ht i (by omega) hl
theorem Turned.flip {l l' : List Int} {a j : Nat} {c : Nat → Bool} {t : Bool} (h : Turned l l' a j c t) (hl : a + j < 8 * l.length) (hc : c j = true) {x : Int} (hx : l'[(a + j) / 8]? = some x) :
    Turned l (l'.set ((a + j) / 8) (Go.bits .xor .u8 x (shl .u8 1 (((a + j) % 8 : Nat) : Int)))) a (j + 1) c true := by
  obtain ⟨h1, h2, h3, h4, h5⟩ := h
  obtain ⟨hq, hxe⟩ := List.getElem?_eq_some_iff.1 hx
  have hbx : Byte x := hxe ▸ h2 _ (List.getElem_mem hq)
  obtain ⟨hby, hbit⟩ := u8_flip x hbx ((a + j) % 8) (by omega)
  generalize Go.bits .xor .u8 x (shl .u8 1 (((a + j) % 8 : Nat) : Int)) = y at hby hbit
  refine ⟨by simp [h1], fun z hz => ?_, fun p hp => ?_, fun _ => ⟨j, by omega, hl, hc⟩, by simp⟩
  · rcases List.mem_or_eq_of_mem_set hz with hz | rfl
    · exact h2 z hz
    · exact hby
  · have hp8 : p / 8 < l'.length := by omega
    have h3p := h3 p hp
    rw [allBits_get l' p hp8] at h3p
    rw [allBits_get _ p (by simpa using hp8)]
    by_cases e : p / 8 = (a + j) / 8
    · have e2 : (l'.set ((a + j) / 8) y)[p / 8]'(by simpa using hp8) = y := by simp [e]
      have e3 : l'[p / 8] = x := by rw [← hxe]; congr 1
      rw [e2, hbit (p % 8) (by omega)]
      rw [e3] at h3p
      have hd : (allBits l)[p]? = some (((BitVec.ofInt 32 x).getLsbD (p % 8)) ^^ (decide (a ≤ p) && decide (p < a + j) && c (p - a))) := by
        cases hA : (allBits l)[p]? with
        | none => rw [hA] at h3p; simp at h3p
        | some b =>
          rw [hA] at h3p
          simp only [Option.map_some, Option.some.injEq] at h3p
          rw [h3p, Bool.xor_assoc, Bool.xor_self, Bool.xor_false]
      rw [hd]
      simp only [Option.map_some, Option.some.injEq]
      by_cases e4 : p = a + j
      · subst e4
        simp [hc]
      · have : ¬ p % 8 = (a + j) % 8 := by omega
        have hlt : decide (p < a + (j + 1)) = decide (p < a + j) := decide_eq_decide.mpr (by omega)
        rw [hlt, Bool.xor_assoc, Bool.xor_self]
        simp [this]
    · have e2 : (l'.set ((a + j) / 8) y)[p / 8]'(by simpa using hp8) = l'[p / 8] := by rw [List.getElem_set_ne (fun h => e h.symm)]
      rw [e2, h3p]
      congr 1
      funext b
      congr 1
      have : ¬ p = a + j := by rintro rfl; exact e rfl
      have hlt : decide (p < a + (j + 1)) = decide (p < a + j) := decide_eq_decide.mpr (by omega)
      rw [hlt]
/-- At last: the checks are unlike just if any bit was turned. -/
theorem Turned.ends {l l' : List Int} (hb : ∀ x ∈ l, Byte x) {a j : Nat} (hj : j ≤ 32) {c : Nat → Bool} {t : Bool} (h : Turned l l' a j c t) :
    (((crc 0#32 l').toNat : Int) != ((crc 0#32 l).toNat : Int)) = t := by
  obtain ⟨h1, h2, h3, h4, h5⟩ := h
  cases t with
  | false =>
    have : allBits l' = allBits l := by
      apply List.ext_getElem?
      intro p
      by_cases hp : p < 8 * l.length
      · rw [h3 p hp]
        have : (decide (a ≤ p) && decide (p < a + j) && c (p - a)) = false := by
          by_cases ha : a ≤ p ∧ p < a + j
          · have := h5 rfl (p - a) (by omega) (by omega)
            simp [this]
          · by_cases h6 : a ≤ p
            · have : ¬ p < a + j := fun h7 => ha ⟨h6, h7⟩
              simp [this]
            · simp [h6]
        simp [this]
      · rw [List.getElem?_eq_none (by rw [allBits_length]; omega), List.getElem?_eq_none (by rw [allBits_length]; omega)]
    have := allBits_inj h2 hb h1 this
    rw [this]
    simp
  | true =>
    obtain ⟨i, hi, hl, hc⟩ := h4 rfl
    rw [bne_iff_ne]
    intro he
    have he' : crc 0#32 l' = crc 0#32 l := BitVec.eq_of_toNat_eq (by omega)
    have := near_eq h2 hb h1 a (fun p hp => by
      by_cases h6 : p < 8 * l.length
      · rw [h3 p h6]
        have : (decide (a ≤ p) && decide (p < a + j) && c (p - a)) = false := by
          rcases hp with hp | hp
          · simp [show ¬ a ≤ p by omega]
          · simp [show ¬ p < a + j by omega]
        simp [this]
      · rw [List.getElem?_eq_none (by rw [allBits_length]; omega), List.getElem?_eq_none (by rw [allBits_length]; omega)]) he'
    have h7 := h3 (a + i) hl
    rw [this, List.getElem?_eq_getElem (by rw [allBits_length]; omega)] at h7
    simp [hi, hc] at h7
end Crc
theorem tells_end (l : List Int) (hb : ∀ x ∈ l, Crc.Byte x) (hl : l.length ≤ 500) (l' : List Int) (x1 x2 x9 : Int) {a j : Nat} (hj : j ≤ 32) {c : Nat → Bool} {t : Bool} (h : Crc.Turned l l' a j c t) :
    Ev (fun k => contralaw03_CrcTells.j2 k l x1 x2 l' t x9 false) true := by
  refine Ev.up ?_
  simp only [contralaw03_CrcTells.j2]
  refine Ev.neg (by decide) (Ev.bind (Crc.of_ev l' h.2.1 (by have := h.1; omega)) (Ev.bind (Crc.of_ev l hb (by omega)) (Ev.some_ ?_)))
  rw [h.ends hb hj]
  cases t <;> rfl
theorem tells_loop (l : List Int) (hb : ∀ x ∈ l, Crc.Byte x) (hl : l.length ≤ 500) (a : Nat) (ha : a < 4000) (x2 : Int) (d : Nat) : ∀ (j : Nat) (l' : List Int) (t : Bool), j + d = 32 →
    Crc.Turned l l' a j (fun i => decide ((Go.bits .and .i64 (shr .i64 x2 (i : Int)) 1) = 1)) t → Ev (fun k => contralaw03_CrcTells.l0 k l (a : Int) x2 l' t (j : Int)) true := by
  induction d with
  | zero =>
    intro j l' t hj h
    refine Ev.up ?_
    simp only [contralaw03_CrcTells.l0]
    exact Ev.neg (by omega) (tells_end l hb hl l' _ _ _ (by omega) h)
  | succ d ih =>
    intro j l' t hj h
    refine Ev.up ?_
    simp only [contralaw03_CrcTells.l0]
    refine Ev.pos (by omega) ?_
    have e1 : wrap64 ((a : Int) + (j : Int)) = ((a + j : Nat) : Int) := by rw [w64 (by omega) (by omega)]; omega
    have e2 : wrap64 (8 * (l.length : Int)) = ((8 * l.length : Nat) : Int) := by rw [w64 (by omega) (by omega)]; omega
    have e9 : wrap64 ((j : Int) + 1) = ((j + 1 : Nat) : Int) := by rw [w64 (by omega) (by omega)]; omega
    rw [e1, e2]
    by_cases hlt : a + j < 8 * l.length
    · rw [decide_eq_true (by omega : ((a + j : Nat) : Int) < ((8 * l.length : Nat) : Int))]
      refine Ev.up ?_
      simp only [contralaw03_CrcTells.j2]
      refine Ev.pos trivial (Ev.pos (by omega) ?_)
      rw [e1, e9]
      by_cases hc : (Go.bits .and .i64 (shr .i64 x2 (j : Int)) 1) = 1
      · refine Ev.pos hc ?_
        have e3 : wrap64 (Int.tdiv ((a + j : Nat) : Int) 8) = (((a + j) / 8 : Nat) : Int) := by
          have : Int.tdiv ((a + j : Nat) : Int) 8 = (((a + j) / 8 : Nat) : Int) := by rw [Int.tdiv_eq_ediv_of_nonneg (by omega)]; omega
          rw [this, w64 (by omega) (by omega)]
        have e4 : Int.tmod ((a + j : Nat) : Int) 8 = (((a + j) % 8 : Nat) : Int) := by rw [Int.tmod_eq_emod_of_nonneg (by omega)]; omega
        rw [e3, e4]
        have hq : (a + j) / 8 < l'.length := by have := h.1; omega
        have hx : l'[(a + j) / 8]? = some (rd l' (((a + j) / 8 : Nat) : Int)) := by unfold rd; rw [Int.toNat_natCast, List.getD_eq_getElem?_getD, List.getElem?_eq_getElem hq]; rfl
        have hn := h.flip hlt (decide_eq_true hc) hx
        refine Ev.pos (by omega) (Ev.pos (by omega) (Ev.pos (by omega) ?_))
        rw [Int.toNat_natCast]
        exact ih (j + 1) _ true (by omega) hn
      · refine Ev.neg hc ?_
        exact ih (j + 1) _ t (by omega) (h.skip (decide_eq_false hc))
    · rw [decide_eq_false (by omega : ¬ ((a + j : Nat) : Int) < ((8 * l.length : Nat) : Int))]
      exact tells_end l hb hl l' _ _ _ (by omega) h
theorem CrcTells : contralaw03_CrcTells.Pure := by
  intro l a1 a2 _ s0 b0 ha hb2
  refine Ev.rounds ?_
  have B : ∀ x ∈ l, Crc.Byte x := fun x hx => Crc.wf_byte (b0 x hx)
  unfold contralaw03_CrcTells.f
  refine Ev.bind Crc.known_ev (Ev.pos rfl ?_)
  have hj : ∀ b, (b = false → l.length ≤ 500 ∧ 0 ≤ a1 ∧ a1 < 8 * (l.length : Int)) → Ev (fun k => contralaw03_CrcTells.j0 k l a1 a2 b) true := by
    intro b hb
    refine Ev.up ?_
    simp only [contralaw03_CrcTells.j0]
    cases b with
    | true => exact Ev.pos rfl (Ev.now _)
    | false =>
      obtain ⟨h1, h2, h3⟩ := hb rfl
      refine Ev.neg (by decide) (Ev.let_ (Ev.pos (by simp; omega) ?_))
      obtain ⟨a, rfl⟩ := Int.eq_ofNat_of_zero_le h2
      exact tells_loop l B h1 a (by omega) a2 32 0 ([] ++ l) false rfl (Crc.Turned.start l B a _)
  by_cases h1 : (l.length : Int) > 500
  · exact Ev.pos h1 (hj true (by simp))
  · refine Ev.neg h1 ?_
    by_cases h2 : a1 < 0
    · exact Ev.pos h2 (hj true (by simp))
    · refine Ev.neg h2 ?_
      rw [w64 (by omega) (by omega)]
      by_cases h3 : a1 ≥ 8 * (l.length : Int)
      · exact Ev.pos h3 (hj true (by simp))
      · exact Ev.neg h3 (hj _ (fun _ => ⟨by omega, by omega, by omega⟩))
end Go.Proofs.Ytipkgplkeebhkaa.Pure
