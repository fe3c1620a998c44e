/-
  THE CHECK, PLAINLY: bit by bit; from one state two runs of at most 32 bits that differ end apart; a run is one to one; the long division's window is the register with what is still to come.
-/
import Derived.Laws.Entries
import Derived.RowKit
namespace Go.Proofs.Ytipkgplkeebhkaa.Pure
open Go.RowKit
namespace Crc
abbrev W := BitVec 32
def poly : W := 0xEDB88320#32
def stp (n : W) : W := if n.getLsbD 0 then (n >>> 1) ^^^ poly else n >>> 1
def stps : Nat → W → W
  | 0, n => n
  | j + 1, n => stps j (stp n)
/-- one bit comes in -/
def feed (n : W) (b : Bool) : W := stp (n ^^^ (if b then 1#32 else 0#32))
def feeds (n : W) (bs : List Bool) : W := bs.foldl feed n
def bitsOf (x : W) (j : Nat) : List Bool := (List.range j).map fun i => x.getLsbD i

theorem stp_get (n : W) (i : Nat) : (stp n).getLsbD i = ((n.getLsbD (i + 1) && decide (i < 31)) ^^ (n.getLsbD 0 && poly.getLsbD i)) := by
  unfold stp
  by_cases h : n.getLsbD 0 = true
  · rw [if_pos h, BitVec.getLsbD_xor, BitVec.getLsbD_ushiftRight, h, Bool.true_and, Nat.add_comm 1 i]
    by_cases hi : i < 31
    · simp [hi]
    · simp [hi, BitVec.getLsbD_of_ge n (i + 1) (by omega)]
  · rw [if_neg h, BitVec.getLsbD_ushiftRight, Bool.eq_false_iff.mpr h, Bool.false_and, Bool.xor_false, Nat.add_comm 1 i]
    by_cases hi : i < 31
    · simp [hi]
    · simp [hi, BitVec.getLsbD_of_ge n (i + 1) (by omega)]
theorem poly31 : poly.getLsbD 31 = true := by decide
theorem stp_xor (a b : W) : stp (a ^^^ b) = stp a ^^^ stp b := by
  apply BitVec.eq_of_getLsbD_eq
  intro i hi
  simp only [stp_get, BitVec.getLsbD_xor]
  cases a.getLsbD (i + 1) <;> cases b.getLsbD (i + 1) <;> cases a.getLsbD 0 <;> cases b.getLsbD 0 <;> cases poly.getLsbD i <;> cases decide (i < 31) <;> rfl
theorem stp_even (e : W) (h : e.getLsbD 0 = false) : stp e = e >>> 1 := by unfold stp; rw [h]; rfl
/-- A word of at most j bits may come at once. -/
theorem stps_feeds (j : Nat) : ∀ (n x : W), stps j (n ^^^ x) = feeds n (bitsOf x j) ^^^ (x >>> j) := by
  induction j with
  | zero => intro n x; simp [stps, feeds, bitsOf]
  | succ j ih =>
    intro n x
    have h1 : stp (n ^^^ x) = feed n (x.getLsbD 0) ^^^ (x >>> 1) := by
      have hx : x = (if x.getLsbD 0 then 1#32 else 0#32) ^^^ (x ^^^ (if x.getLsbD 0 then 1#32 else 0#32)) := by
        rw [BitVec.xor_comm x, ← BitVec.xor_assoc, BitVec.xor_self, BitVec.zero_xor]
      have he : (x ^^^ (if x.getLsbD 0 then 1#32 else 0#32)).getLsbD 0 = false := by
        rw [BitVec.getLsbD_xor]
        cases x.getLsbD 0 <;> rfl
      have hs : (x ^^^ (if x.getLsbD 0 then 1#32 else 0#32)) >>> 1 = x >>> 1 := by
        apply BitVec.eq_of_getLsbD_eq
        intro i hi
        rw [BitVec.getLsbD_ushiftRight, BitVec.getLsbD_ushiftRight, BitVec.getLsbD_xor]
        have : (if x.getLsbD 0 = true then 1#32 else 0#32).getLsbD (1 + i) = false := by
          cases x.getLsbD 0
          · simp
          · simp only [if_true, BitVec.getLsbD_one]
            simp
        rw [this, Bool.xor_false]
      conv => lhs; rw [hx]
      rw [← BitVec.xor_assoc, stp_xor, stp_even _ he, hs]
      rfl
    show stps j (stp (n ^^^ x)) = _
    rw [h1, ih]
    have hb : bitsOf x (j + 1) = x.getLsbD 0 :: bitsOf (x >>> 1) j := by
      unfold bitsOf
      rw [List.range_succ_eq_map, List.map_cons, List.map_map]
      congr 1
      apply List.map_congr_left
      intro i _
      simp [Nat.add_comm]
    rw [hb]
    show _ = feeds (feed n (x.getLsbD 0)) _ ^^^ _
    rw [← BitVec.shiftRight_add, Nat.add_comm 1 j]
theorem feeds_append (n : W) (a b : List Bool) : feeds n (a ++ b) = feeds (feeds n a) b := List.foldl_append ..
/-- what comes out tells the bits above: by the bit 31 whether the divisor was taken -/
theorem stp_inj {a b : W} (h : stp a = stp b) : a = b := by
  have h0 : a.getLsbD 0 = b.getLsbD 0 := by
    have h31 : (stp a).getLsbD 31 = (stp b).getLsbD 31 := by rw [h]
    rw [stp_get, stp_get, poly31] at h31
    simpa using h31
  apply BitVec.eq_of_getLsbD_eq
  intro i hi
  cases i with
  | zero => exact h0
  | succ i =>
    have this : (stp a).getLsbD i = (stp b).getLsbD i := by rw [h]
    rw [stp_get, stp_get, h0] at this
    have hd : decide (i < 31) = true := decide_eq_true (by omega)
    rw [hd, Bool.and_true, Bool.and_true] at this
    exact Bool.xor_left_inj.mp this
/-- the bits from j on are the same -/
def Top (j : Nat) (a b : W) : Prop := ∀ i, j ≤ i → a.getLsbD i = b.getLsbD i
theorem feed_top {j : Nat} (hj : j ≤ 31) {a b : W} {x y : Bool} (h : Top j (feed a x) (feed b y)) : Top (j + 1) a b := by
  unfold feed at h
  have hl : ∀ (n : W) (z : Bool) (i : Nat), 0 < i → (n ^^^ (if z then 1#32 else 0#32)).getLsbD i = n.getLsbD i := by
    intro n z i hi
    rw [BitVec.getLsbD_xor]
    cases z
    · simp
    · simp only [if_true, BitVec.getLsbD_one]
      have : ¬ (i = 0) := by omega
      simp [this]
  have h31 := h 31 hj
  rw [stp_get, stp_get, poly31] at h31
  have h0 : (a ^^^ (if x then 1#32 else 0#32)).getLsbD 0 = (b ^^^ (if y then 1#32 else 0#32)).getLsbD 0 := by simpa using h31
  intro i hi
  by_cases hi32 : i < 32
  · obtain ⟨i, rfl⟩ : ∃ m, i = m + 1 := ⟨i - 1, by omega⟩
    have := h i (by omega)
    rw [stp_get, stp_get, h0] at this
    have hd : decide (i < 31) = true := decide_eq_true (by omega)
    rw [hd, Bool.and_true, Bool.and_true] at this
    have := Bool.xor_left_inj.mp this
    rw [hl _ _ _ (by omega), hl _ _ _ (by omega)] at this
    exact this
  · rw [BitVec.getLsbD_of_ge _ _ (by omega), BitVec.getLsbD_of_ge _ _ (by omega)]
theorem feeds_top : ∀ (xs ys : List Bool) (a b : W), xs.length = ys.length → xs.length ≤ 32 → feeds a xs = feeds b ys → Top xs.length a b
  | [], [], a, b, _, _, h => by
    intro i _
    have : a = b := h
    rw [this]
  | x :: xs, y :: ys, a, b, hl, h32, h => by
    have := feeds_top xs ys (feed a x) (feed b y) (by simpa using hl) (by simp at h32; omega) h
    exact feed_top (by simp at h32; omega) this
  | [], _ :: _, _, _, hl, _, _ => by simp at hl
  | _ :: _, [], _, _, hl, _, _ => by simp at hl
/-- From one state: at most 32 bits that end alike are the same. -/
theorem feeds_eq : ∀ (xs ys : List Bool) (n : W), xs.length = ys.length → xs.length ≤ 32 → feeds n xs = feeds n ys → xs = ys
  | [], [], _, _, _, _ => rfl
  | x :: xs, y :: ys, n, hl, h32, h => by
    have hxy : x = y := by
      have ht := feeds_top xs ys (feed n x) (feed n y) (by simpa using hl) (by simp at h32; omega) h
      have h31 := ht 31 (by simp at h32; omega)
      unfold feed at h31
      rw [stp_get, stp_get, poly31] at h31
      have h0 : (n ^^^ (if x then 1#32 else 0#32)).getLsbD 0 = (n ^^^ (if y then 1#32 else 0#32)).getLsbD 0 := by simpa using h31
      rw [BitVec.getLsbD_xor, BitVec.getLsbD_xor] at h0
      have := Bool.xor_right_inj.mp h0
      cases x <;> cases y <;> first | rfl | simp at this
    subst hxy
    rw [feeds_eq xs ys (feed n x) (by simpa using hl) (by simp at h32; omega) h]
  | [], _ :: _, _, hl, _, _ => by simp at hl
  | _ :: _, [], _, hl, _, _ => by simp at hl
theorem feed_inj {a b : W} {x : Bool} (h : feed a x = feed b x) : a = b := by
  have := stp_inj h
  exact (BitVec.xor_left_inj _).mp this
theorem feeds_inj : ∀ (xs : List Bool) {a b : W}, feeds a xs = feeds b xs → a = b
  | [], _, _, h => h
  | _ :: xs, _, _, h => feed_inj (feeds_inj xs h)
/-! bytes -/
def byteBits (x : Int) : List Bool := bitsOf (BitVec.ofInt 32 x) 8
def upd (n : W) (x : Int) : W := stps 8 (n ^^^ BitVec.ofInt 32 x)
def run (n : W) (l : List Int) : W := l.foldl upd n
def crc (n : W) (l : List Int) : W := ~~~ (run (~~~ n) l)
def allBits (l : List Int) : List Bool := l.flatMap byteBits
def Byte (x : Int) : Prop := 0 ≤ x ∧ x < 256
theorem upd_feeds {n : W} {x : Int} (h : Byte x) : upd n x = feeds n (byteBits x) := by
  unfold upd byteBits
  rw [stps_feeds]
  have : (BitVec.ofInt 32 x) >>> 8 = 0#32 := by
    obtain ⟨m, rfl⟩ := Int.eq_ofNat_of_zero_le h.1
    apply BitVec.eq_of_toNat_eq
    have h2 : m < 256 := by have := h.2; omega
    simp only [BitVec.ofInt_natCast, BitVec.toNat_ushiftRight, BitVec.toNat_ofNat, Nat.shiftRight_eq_div_pow]
    omega
  rw [this, BitVec.xor_zero]
theorem run_feeds : ∀ (l : List Int) (n : W), (∀ x ∈ l, Byte x) → run n l = feeds n (allBits l)
  | [], _, _ => rfl
  | x :: l, n, h => by
    show run (upd n x) l = feeds n (byteBits x ++ allBits l)
    rw [feeds_append, upd_feeds (h x List.mem_cons_self), run_feeds l _ (fun y hy => h y (List.mem_cons_of_mem _ hy))]
theorem run_append (n : W) (a b : List Int) : run n (a ++ b) = run (run n a) b := List.foldl_append ..
theorem crc_append (n : W) (a b : List Int) : crc n (a ++ b) = crc (crc n a) b := by
  unfold crc
  rw [run_append, BitVec.not_not]
theorem allBits_append (a b : List Int) : allBits (a ++ b) = allBits a ++ allBits b := List.flatMap_append
theorem byteBits_length (x : Int) : (byteBits x).length = 8 := by simp [byteBits, bitsOf]
theorem allBits_length : ∀ l : List Int, (allBits l).length = 8 * l.length
  | [] => rfl
  | x :: l => by
    show (byteBits x ++ allBits l).length = _
    rw [List.length_append, byteBits_length, allBits_length l, List.length_cons]
    omega
theorem crc_eq_iff {a b : List Int} : crc 0#32 a = crc 0#32 b ↔ run (~~~ 0#32) a = run (~~~ 0#32) b := by
  unfold crc
  constructor
  · intro h
    have := congrArg (~~~ ·) h
    simpa using this
  · intro h
    rw [h]
end Crc
end Go.Proofs.Ytipkgplkeebhkaa.Pure
namespace Go.Proofs.Ytipkgplkeebhkaa.Pure
open Go.RowKit
namespace Crc
/-! bits at places -/
theorem byteBits_get (x : Int) (i : Nat) (h : i < 8) : (byteBits x)[i]? = some ((BitVec.ofInt 32 x).getLsbD i) := by
  simp [byteBits, bitsOf, h]
theorem allBits_get : ∀ (l : List Int) (p : Nat) (h : p / 8 < l.length), (allBits l)[p]? = some ((BitVec.ofInt 32 l[p / 8]).getLsbD (p % 8))
  | [], p, h => by simp at h
  | x :: l, p, h => by
    show (byteBits x ++ allBits l)[p]? = _
    by_cases hp : p < 8
    · rw [List.getElem?_append_left (by rw [byteBits_length]; exact hp), byteBits_get _ _ hp]
      have h0 : p / 8 = 0 := by omega
      have h1 : p % 8 = p := by omega
      simp only [h0, h1, List.getElem_cons_zero]
    · rw [List.getElem?_append_right (by rw [byteBits_length]; omega), byteBits_length]
      have hl : (p - 8) / 8 < l.length := by simp at h; omega
      rw [allBits_get l (p - 8) hl]
      have h1 : (p - 8) % 8 = p % 8 := by omega
      have h2 : p / 8 = (p - 8) / 8 + 1 := by omega
      simp only [h1, h2, List.getElem_cons_succ]
/-- Two texts of one length that differ in 32 bits in a row at most have one check only if all bits are the same. -/
theorem near_eq {l l' : List Int} (hb : ∀ x ∈ l, Byte x) (hb' : ∀ x ∈ l', Byte x) (hl : l.length = l'.length) (at_ : Nat)
    (hs : ∀ p, p < at_ ∨ at_ + 32 ≤ p → (allBits l)[p]? = (allBits l')[p]?) (h : crc 0#32 l = crc 0#32 l') : allBits l = allBits l' := by
  rw [crc_eq_iff, run_feeds _ _ hb, run_feeds _ _ hb'] at h
  have split : ∀ A : List Bool, A = A.take at_ ++ ((A.drop at_).take 32 ++ (A.drop at_).drop 32) := fun A => by rw [List.take_append_drop, List.take_append_drop]
  have hlen : (allBits l).length = (allBits l').length := by rw [allBits_length, allBits_length, hl]
  have ht : (allBits l).take at_ = (allBits l').take at_ := by
    apply List.ext_getElem?
    intro i
    rw [List.getElem?_take, List.getElem?_take]
    split
    · exact hs i (.inl ‹_›)
    · rfl
  have hd : ((allBits l).drop at_).drop 32 = ((allBits l').drop at_).drop 32 := by
    apply List.ext_getElem?
    intro i
    simp only [List.getElem?_drop]
    exact hs _ (.inr (by omega))
  rw [split (allBits l), split (allBits l'), feeds_append, feeds_append, feeds_append, feeds_append, ht, hd] at h
  have h2 := feeds_inj _ h
  have h3 := feeds_eq _ _ _ (by simp only [List.length_take, List.length_drop, hlen]) (by simp only [List.length_take]; omega) h2
  rw [split (allBits l), split (allBits l'), ht, hd, h3]
theorem byte_ext {x y : Int} (hx : Byte x) (hy : Byte y) (h : ∀ i, i < 8 → (BitVec.ofInt 32 x).getLsbD i = (BitVec.ofInt 32 y).getLsbD i) : x = y := by
  obtain ⟨m, rfl⟩ := Int.eq_ofNat_of_zero_le hx.1
  obtain ⟨n, rfl⟩ := Int.eq_ofNat_of_zero_le hy.1
  have h1 : m < 256 := by have := hx.2; omega
  have h2 : n < 256 := by have := hy.2; omega
  have : m = n := by
    apply Nat.eq_of_testBit_eq
    intro i
    by_cases hi : i < 8
    · have := h i hi
      simp only [BitVec.ofInt_natCast, BitVec.getLsbD, BitVec.toNat_ofNat] at this
      rw [Nat.mod_eq_of_lt (by omega), Nat.mod_eq_of_lt (by omega)] at this
      exact this
    · rw [Nat.testBit_lt_two_pow (Nat.lt_of_lt_of_le h1 (by have := Nat.pow_le_pow_right (n := 2) (by decide) (show 8 ≤ i by omega); simpa using this)), Nat.testBit_lt_two_pow (Nat.lt_of_lt_of_le h2 (by have := Nat.pow_le_pow_right (n := 2) (by decide) (show 8 ≤ i by omega); simpa using this))]
  rw [this]
theorem allBits_inj : ∀ {l l' : List Int}, (∀ x ∈ l, Byte x) → (∀ x ∈ l', Byte x) → l.length = l'.length → allBits l = allBits l' → l = l'
  | [], [], _, _, _, _ => rfl
  | x :: l, y :: l', hb, hb', hl, h => by
    have h' : byteBits x ++ allBits l = byteBits y ++ allBits l' := h
    obtain ⟨h1, h2⟩ := List.append_inj h' (by rw [byteBits_length, byteBits_length])
    have hxy : x = y := byte_ext (hb x List.mem_cons_self) (hb' y List.mem_cons_self) (fun i hi => by
      have := congrArg (fun z => z[i]?) h1
      simp only [byteBits_get _ _ hi] at this
      exact Option.some.inj this)
    rw [hxy, allBits_inj (fun z hz => hb z (List.mem_cons_of_mem _ hz)) (fun z hz => hb' z (List.mem_cons_of_mem _ hz)) (by simpa using hl) h2]
  | [], _ :: _, _, _, hl, _ => by simp at hl
  | _ :: _, [], _, _, hl, _ => by simp at hl
end Crc
end Go.Proofs.Ytipkgplkeebhkaa.Pure
