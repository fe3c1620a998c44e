/-
  RECORDS, PLAINLY: four bytes of a number; a record; what is read at the beginning of bytes; all records that bytes begin with.
-/
import Derived.Test.YthpdmjpimeibnaaTCrc
import Derived.Laws.BitsLemmas
namespace Go.Proofs.Ythpdmjpimeibnaa.Pure
open Go.RowKit
namespace Frame
def Bytes (l : List Int) : Prop := ∀ x ∈ l, Crc.Byte x
theorem Bytes.append {a b : List Int} (ha : Bytes a) (hb : Bytes b) : Bytes (a ++ b) := fun x hx => (List.mem_append.1 hx).elim (ha x) (hb x)
theorem Bytes.take {a : List Int} (ha : Bytes a) (n : Nat) : Bytes (a.take n) := fun x hx => ha x (List.mem_of_mem_take hx)
theorem Bytes.drop {a : List Int} (ha : Bytes a) (n : Nat) : Bytes (a.drop n) := fun x hx => ha x (List.mem_of_mem_drop hx)
def chk (l : List Int) : Nat := (Crc.crc 0#32 l).toNat
theorem chk_lt (l : List Int) : chk l < 4294967296 := (Crc.crc 0#32 l).isLt
def be4 (n : Nat) : List Int := [((n / 16777216 % 256 : Nat) : Int), ((n / 65536 % 256 : Nat) : Int), ((n / 256 % 256 : Nat) : Int), ((n % 256 : Nat) : Int)]
theorem be4_bytes (n : Nat) : Bytes (be4 n) := by
  intro x hx
  simp only [be4, List.mem_cons, List.not_mem_nil, or_false] at hx
  rcases hx with rfl | rfl | rfl | rfl <;> exact ⟨by omega, by omega⟩
theorem be4_length (n : Nat) : (be4 n).length = 4 := rfl
/-- the number of four bytes -/
def num (l : List Int) : Int := l.getD 0 0 * 16777216 + l.getD 1 0 * 65536 + l.getD 2 0 * 256 + l.getD 3 0
theorem getD_byte {l : List Int} (h : Bytes l) (i : Nat) : Crc.Byte (l.getD i 0) := by
  rw [List.getD_eq_getElem?_getD]
  by_cases hi : i < l.length
  · rw [List.getElem?_eq_getElem hi]
    exact h _ (List.getElem_mem hi)
  · rw [List.getElem?_eq_none (by omega)]
    exact ⟨by decide, by decide⟩
theorem num_bound {l : List Int} (h : Bytes l) : 0 ≤ num l ∧ num l < 4294967296 := by
  have h0 := getD_byte h 0
  have h1 := getD_byte h 1
  have h2 := getD_byte h 2
  have h3 := getD_byte h 3
  unfold Crc.Byte at h0 h1 h2 h3
  unfold num
  omega
theorem num_be4 (n : Nat) (hn : n < 4294967296) (l : List Int) : num (be4 n ++ l) = n := by
  simp only [num, be4, List.cons_append, List.getD_cons_zero, List.getD_cons_succ]
  omega
theorem num_take {l : List Int} (h : Bytes l) (h4 : 4 ≤ l.length) : l.take 4 = be4 (num l).toNat := by
  match l, h4 with
  | a :: b :: c :: d :: r, _ =>
    have ha := h a (by simp)
    have hb := h b (by simp)
    have hc := h c (by simp)
    have hd := h d (by simp)
    unfold Crc.Byte at ha hb hc hd
    simp only [num, be4, List.getD_cons_zero, List.getD_cons_succ, List.take_succ_cons, List.take_zero]
    congr 1
    · omega
    congr 1
    · omega
    congr 1
    · omega
    congr 1
    omega
/-- a record -/
def rec_ (d : List Int) : List Int := be4 d.length ++ (be4 (chk d) ++ d)
theorem rec_length (d : List Int) : (rec_ d).length = 8 + d.length := by simp [rec_, be4_length]; omega
theorem rec_bytes {d : List Int} (h : Bytes d) : Bytes (rec_ d) := (be4_bytes _).append ((be4_bytes _).append h)
/-- what is read at the beginning: the data, how many bytes, the error -/
def read (l : List Int) : List Int × Int × Int :=
  if l.length < 8 then ([], 0, 40) else if num l > 16384 then ([], 0, 2) else if num l > (l.length : Int) - 8 then ([], 0, 40) else
  if (chk ((l.drop 8).take (num l).toNat) : Int) = num (l.drop 4) then ((l.drop 8).take (num l).toNat, 8 + num l, 0) else ([], 0, 50)
theorem read_rec {d : List Int} (_hd : Bytes d) (hl : d.length ≤ 16384) (m : List Int) : read (rec_ d ++ m) = (d, 8 + (d.length : Int), 0) := by
  have h1 : num (rec_ d ++ m) = (d.length : Int) := by
    unfold rec_
    rw [List.append_assoc, num_be4 _ (by omega)]
  have e : rec_ d ++ m = be4 d.length ++ (be4 (chk d) ++ (d ++ m)) := by simp [rec_, List.append_assoc]
  have h8 : (rec_ d ++ m).drop 8 = d ++ m := by
    rw [e, ← List.append_assoc, List.drop_left' (by simp [be4_length])]
  have h4 : (rec_ d ++ m).drop 4 = be4 (chk d) ++ (d ++ m) := by
    rw [e, List.drop_left' (be4_length _)]
  have hlen : (rec_ d ++ m).length = 8 + d.length + m.length := by rw [List.length_append, rec_length]
  unfold read
  rw [h1, h8, h4, Int.toNat_natCast, List.take_left' rfl, num_be4 _ (chk_lt d)]
  rw [if_neg (by omega), if_neg (by omega), if_neg (by omega), if_pos rfl]
/-- What is read well is a record that the bytes begin with. -/
theorem read_ok {l : List Int} (hb : Bytes l) {d : List Int} {n : Int} (h : read l = (d, n, 0)) : Bytes d ∧ d.length ≤ 16384 ∧ n = 8 + (d.length : Int) ∧ ∃ m, l = rec_ d ++ m := by
  unfold read at h
  by_cases h1 : l.length < 8
  · rw [if_pos h1] at h; simp at h
  rw [if_neg h1] at h
  by_cases h2 : num l > 16384
  · rw [if_pos h2] at h; simp at h
  rw [if_neg h2] at h
  by_cases h3 : num l > (l.length : Int) - 8
  · rw [if_pos h3] at h; simp at h
  rw [if_neg h3] at h
  by_cases h4 : (chk ((l.drop 8).take (num l).toNat) : Int) = num (l.drop 4)
  · rw [if_pos h4] at h
    have hn := num_bound hb
    simp only [Prod.mk.injEq, and_true] at h
    obtain ⟨rfl, rfl⟩ := h
    have hlen : ((l.drop 8).take (num l).toNat).length = (num l).toNat := by rw [List.length_take, List.length_drop]; omega
    refine ⟨(hb.drop 8).take _, by omega, by omega, l.drop (8 + (num l).toNat), ?_⟩
    unfold rec_
    rw [hlen, ← num_take hb (by omega)]
    have h5 : be4 (chk ((l.drop 8).take (num l).toNat)) = (l.drop 4).take 4 := by
      rw [num_take (hb.drop 4) (by rw [List.length_drop]; omega)]
      congr 1
      omega
    rw [h5, List.append_assoc, List.append_assoc]
    conv => lhs; rw [← List.take_append_drop 4 l]
    congr 1
    conv => lhs; rw [← List.take_append_drop 4 (l.drop 4)]
    congr 1
    rw [List.drop_drop]
    conv => lhs; rw [← List.take_append_drop (num l).toNat (l.drop (4 + 4))]
    congr 1
    rw [List.drop_drop]
  · rw [if_neg h4] at h; simp at h
theorem read_pos {l : List Int} (hb : Bytes l) (h : (read l).2.2 = 0) : 8 ≤ (read l).2.1 ∧ (read l).2.1 ≤ l.length := by
  obtain ⟨_, _, h3, m, h4⟩ := read_ok hb (d := (read l).1) (n := (read l).2.1) (by rw [← h])
  have := congrArg List.length h4
  rw [List.length_append, rec_length] at this
  omega
/-- all records from the beginning on; k: how many at most -/
def scan : Nat → List Int → List (List Int) × Int
  | 0, _ => ([], 0)
  | k + 1, l => if l.length = 0 then ([], 0) else if (read l).2.2 = 0 then ((read l).1 :: (scan k (l.drop (read l).2.1.toNat)).1, (read l).2.1 + (scan k (l.drop (read l).2.1.toNat)).2) else ([], 0)
def all (ds : List (List Int)) : List Int := ds.flatMap rec_
theorem all_cons (d : List Int) (ds : List (List Int)) : all (d :: ds) = rec_ d ++ all ds := rfl
theorem all_append (a b : List (List Int)) : all (a ++ b) = all a ++ all b := List.flatMap_append
theorem all_bytes {ds : List (List Int)} (h : ∀ d ∈ ds, Bytes d) : Bytes (all ds) := by
  intro x hx
  obtain ⟨d, hd, hx⟩ := List.mem_flatMap.1 hx
  exact rec_bytes (h d hd) x hx
/-- nothing is read at the beginning -/
def Stops (l : List Int) : Prop := l = [] ∨ (read l).2.2 ≠ 0
theorem scan_stops (k : Nat) {l : List Int} (h : Stops l) : scan k l = ([], 0) := by
  cases k with
  | zero => rfl
  | succ k =>
    unfold scan
    rcases h with rfl | h
    · rw [if_pos (show ([] : List Int).length = 0 from rfl)]
    · by_cases h0 : l.length = 0
      · rw [if_pos h0]
      · rw [if_neg h0, if_neg h]
theorem scan_all : ∀ (ds : List (List Int)) (k : Nat) (m : List Int), ds.length ≤ k → (∀ d ∈ ds, Bytes d ∧ d.length ≤ 16384) → Stops m → scan k (all ds ++ m) = (ds, ((all ds).length : Int))
  | [], k, m, _, _, hm => by
    show scan k m = ([], 0)
    exact scan_stops k hm
  | d :: ds, 0, _, hk, _, _ => by simp at hk
  | d :: ds, k + 1, m, hk, hd, hm => by
    have h1 := hd d List.mem_cons_self
    have ih := scan_all ds k m (by simpa using hk) (fun x hx => hd x (List.mem_cons_of_mem _ hx)) hm
    have hr := read_rec h1.1 h1.2 (all ds ++ m)
    rw [all_cons, List.append_assoc]
    unfold scan
    have hlen : (rec_ d ++ (all ds ++ m)).length = 8 + d.length + (all ds ++ m).length := by rw [List.length_append, rec_length]
    rw [if_neg (by omega), hr]
    simp only [if_true]
    have hdrop : (rec_ d ++ (all ds ++ m)).drop (8 + (d.length : Int)).toNat = all ds ++ m := by
      rw [List.drop_left']
      rw [rec_length]
      omega
    rw [hdrop, ih]
    simp only [Prod.mk.injEq, true_and]
    rw [List.length_append, rec_length]
    omega
theorem scan_length : ∀ (k : Nat) (l : List Int), (scan k l).1.length ≤ k
  | 0, _ => Nat.le_refl _
  | k + 1, l => by
    unfold scan
    by_cases h0 : l.length = 0
    · rw [if_pos h0]; exact Nat.zero_le _
    · rw [if_neg h0]
      by_cases h : (read l).2.2 = 0
      · rw [if_pos h]
        have := scan_length k (l.drop (read l).2.1.toNat)
        simp only [List.length_cons]
        omega
      · rw [if_neg h]; exact Nat.zero_le _
theorem stops_short {l : List Int} (h : l.length < 8) : Stops l := by
  right
  unfold read
  rw [if_pos h]
  decide
/-! a torn end -/
/-- one byte, the last one, exclusive or -/
def mar (x t : Int) : Int := Go.bits .xor .u8 x t
theorem mar_nat (m n : Nat) (hm : m < 256) (hn : n < 256) : mar (m : Int) (n : Int) = ((m ^^^ n : Nat) : Int) := by
  unfold mar
  have e : Go.bits .xor .u8 (m : Int) (n : Int) = IntKind.u8.wrap (((BitVec.ofInt 8 (m : Int) ^^^ BitVec.ofInt 8 (n : Int)).toNat : Nat) : Int) := rfl
  rw [e, BitVec.ofInt_natCast, BitVec.ofInt_natCast, BitVec.toNat_xor, BitVec.toNat_ofNat, BitVec.toNat_ofNat, Nat.mod_eq_of_lt hm, Nat.mod_eq_of_lt hn, IntKind.wrap_u8]
  have : m ^^^ n < 2 ^ 8 := Nat.xor_lt_two_pow hm hn
  omega
theorem mar_byte {x t : Int} (hx : Crc.Byte x) (ht : Crc.Byte t) : Crc.Byte (mar x t) := by
  obtain ⟨m, rfl⟩ := Int.eq_ofNat_of_zero_le hx.1
  obtain ⟨n, rfl⟩ := Int.eq_ofNat_of_zero_le ht.1
  have h1 : m < 256 := by have := hx.2; omega
  have h2 : n < 256 := by have := ht.2; omega
  rw [mar_nat m n h1 h2]
  have : m ^^^ n < 2 ^ 8 := Nat.xor_lt_two_pow h1 h2
  exact ⟨by omega, by omega⟩
theorem mar_zero {x : Int} (hx : Crc.Byte x) : mar x 0 = x := by
  obtain ⟨m, rfl⟩ := Int.eq_ofNat_of_zero_le hx.1
  have := mar_nat m 0 (by have := hx.2; omega) (by decide)
  rw [Nat.xor_zero] at this
  exact this
theorem mar_ne {x t : Int} (hx : Crc.Byte x) (ht : Crc.Byte t) (h0 : t ≠ 0) : mar x t ≠ x := by
  obtain ⟨m, rfl⟩ := Int.eq_ofNat_of_zero_le hx.1
  obtain ⟨n, rfl⟩ := Int.eq_ofNat_of_zero_le ht.1
  have h1 : m < 256 := by have := hx.2; omega
  have h2 : n < 256 := by have := ht.2; omega
  rw [mar_nat m n h1 h2]
  intro h
  have h3 : m ^^^ n = m := by omega
  have h4 : n = 0 := by
    have := congrArg (fun z => m ^^^ z) h3
    simp only [← Nat.xor_assoc, Nat.xor_self, Nat.zero_xor] at this
    exact this
  exact h0 (by omega)
def marLast (l : List Int) (t : Int) : List Int := if l = [] then [] else l.set (l.length - 1) (mar (l.getD (l.length - 1) 0) t)
theorem marLast_snoc (a : List Int) (x t : Int) : marLast (a ++ [x]) t = a ++ [mar x t] := by
  unfold marLast
  rw [if_neg (by simp), List.length_append, List.length_singleton, Nat.add_sub_cancel]
  have h1 : (a ++ [x]).getD a.length 0 = x := by rw [List.getD_eq_getElem?_getD, List.getElem?_append_right (Nat.le_refl _)]; simp
  rw [h1, List.set_append_right _ _ (Nat.le_refl _)]
  simp
theorem marLast_append (a b : List Int) (t : Int) (h : b ≠ []) : marLast (a ++ b) t = a ++ marLast b t := by
  obtain ⟨b', x, rfl⟩ : ∃ b' x, b = b' ++ [x] := ⟨b.dropLast, b.getLast h, (List.dropLast_concat_getLast h).symm⟩
  rw [← List.append_assoc, marLast_snoc, marLast_snoc, List.append_assoc]
theorem marLast_length (l : List Int) (t : Int) : (marLast l t).length = l.length := by
  unfold marLast
  split
  · rename_i h; rw [h]
  · simp
theorem marLast_bytes {l : List Int} (h : Bytes l) {t : Int} (ht : Crc.Byte t) : Bytes (marLast l t) := by
  unfold marLast
  split
  · intro x hx; simp at hx
  · intro x hx
    rcases List.mem_or_eq_of_mem_set hx with hx | rfl
    · exact h x hx
    · exact mar_byte (getD_byte h _) ht
theorem marLast_zero {l : List Int} (h : Bytes l) : marLast l 0 = l := by
  by_cases e : l = []
  · subst e; rfl
  · obtain ⟨b', x, rfl⟩ : ∃ b' x, l = b' ++ [x] := ⟨l.dropLast, l.getLast e, (List.dropLast_concat_getLast e).symm⟩
    rw [marLast_snoc, mar_zero (h x (by simp))]
/-- bytes with another last one have another check -/
theorem chk_mar {d : List Int} (hd : Bytes d) (hne : d ≠ []) {t : Int} (ht : Crc.Byte t) (h0 : t ≠ 0) : chk (marLast d t) ≠ chk d := by
  intro h
  obtain ⟨a, x, rfl⟩ : ∃ b' x, d = b' ++ [x] := ⟨d.dropLast, d.getLast hne, (List.dropLast_concat_getLast hne).symm⟩
  have hb' := marLast_bytes hd ht
  rw [marLast_snoc] at h hb'
  have hc : Crc.crc 0#32 (a ++ [mar x t]) = Crc.crc 0#32 (a ++ [x]) := BitVec.eq_of_toNat_eq h
  have hal : ∀ y, Crc.allBits (a ++ [y]) = Crc.allBits a ++ Crc.byteBits y := fun y => by
    rw [Crc.allBits_append]
    show _ ++ (Crc.byteBits y ++ []) = _
    rw [List.append_nil]
  have hn := Crc.near_eq hb' hd (by simp) (8 * a.length) (fun p hp => by
    rw [hal, hal]
    rcases hp with hp | hp
    · rw [List.getElem?_append_left (by rw [Crc.allBits_length]; exact hp), List.getElem?_append_left (by rw [Crc.allBits_length]; exact hp)]
    · rw [List.getElem?_eq_none (by rw [List.length_append, Crc.allBits_length, Crc.byteBits_length]; omega), List.getElem?_eq_none (by rw [List.length_append, Crc.allBits_length, Crc.byteBits_length]; omega)]) hc
  have := Crc.allBits_inj hb' hd (by simp) hn
  have h1 := List.append_inj_right this rfl
  simp only [List.cons.injEq, and_true] at h1
  exact mar_ne (hd x (by simp)) ht h0 h1
theorem num_congr {l l' : List Int} (h : l.take 4 = l'.take 4) : num l = num l' := by
  have : ∀ i, i < 4 → l.getD i 0 = l'.getD i 0 := fun i hi => by
    have := congrArg (fun z => z.getD i 0) h
    simp only [List.getD_eq_getElem?_getD, List.getElem?_take, if_pos hi] at this
    rw [List.getD_eq_getElem?_getD, List.getD_eq_getElem?_getD, this]
  unfold num
  rw [this 0 (by decide), this 1 (by decide), this 2 (by decide), this 3 (by decide)]
/-- The beginning of a record, its last byte changed: it isn't read, but if it is whole and unchanged. -/
theorem stops_torn {d : List Int} (hd : Bytes d) (hl : d.length ≤ 16384) (c : Nat) (hc : c ≤ (rec_ d).length) {t : Int} (ht : Crc.Byte t) (h : c < (rec_ d).length ∨ t ≠ 0) : Stops (marLast ((rec_ d).take c) t) := by
  have hrl := rec_length d
  have hlen : (marLast ((rec_ d).take c) t).length = c := by rw [marLast_length, List.length_take]; omega
  by_cases h8 : c < 8
  · exact stops_short (by omega)
  · have hsplit : (rec_ d).take c = be4 d.length ++ ((be4 (chk d) ++ d).take (c - 4)) := by
      unfold rec_
      rw [List.take_append, be4_length, List.take_of_length_le (by rw [be4_length]; omega)]
    have hne : (be4 (chk d) ++ d).take (c - 4) ≠ [] := by
      intro e
      have := congrArg List.length e
      rw [List.length_take, List.length_append, be4_length] at this
      simp at this
      omega
    have hm : marLast ((rec_ d).take c) t = be4 d.length ++ marLast ((be4 (chk d) ++ d).take (c - 4)) t := by rw [hsplit, marLast_append _ _ _ hne]
    have hnum : num (marLast ((rec_ d).take c) t) = (d.length : Int) := by rw [hm, num_be4 _ (by omega)]
    right
    unfold read
    rw [hnum, hlen, if_neg h8, if_neg (by omega)]
    by_cases hs : (d.length : Int) > (c : Int) - 8
    · rw [if_pos hs]; decide
    · rw [if_neg hs]
      have hce : c = (rec_ d).length := by omega
      have ht0 : t ≠ 0 := h.resolve_left (by omega)
      have hfull : (be4 (chk d) ++ d).take (c - 4) = be4 (chk d) ++ d := List.take_of_length_le (by rw [List.length_append, be4_length]; omega)
      rw [hm, hfull]
      by_cases hd0 : d = []
      · subst hd0
        have h4 : (be4 ([] : List Int).length ++ marLast (be4 (chk []) ++ []) t).drop 4 = marLast (be4 (chk []) ++ []) t := List.drop_left' (be4_length _)
        rw [h4]
        have hd8 : ((be4 ([] : List Int).length ++ marLast (be4 (chk []) ++ []) t).drop 8).take (([] : List Int).length : Int).toNat = [] := by simp
        rw [hd8]
        rw [if_neg]
        · decide
        · intro he
          have hb : Bytes (be4 (chk [])) := be4_bytes _
          have e1 : marLast (be4 (chk []) ++ []) t = [((chk [] / 16777216 % 256 : Nat) : Int), ((chk [] / 65536 % 256 : Nat) : Int), ((chk [] / 256 % 256 : Nat) : Int)] ++ [mar ((chk [] % 256 : Nat) : Int) t] := by
            rw [List.append_nil]
            exact marLast_snoc [((chk [] / 16777216 % 256 : Nat) : Int), ((chk [] / 65536 % 256 : Nat) : Int), ((chk [] / 256 % 256 : Nat) : Int)] _ t
          rw [e1] at he
          simp only [num, List.cons_append, List.nil_append, List.getD_cons_zero, List.getD_cons_succ] at he
          have hx : Crc.Byte ((chk [] % 256 : Nat) : Int) := ⟨by omega, by omega⟩
          have hy := mar_byte hx ht
          have := chk_lt []
          have hne := mar_ne hx ht ht0
          unfold Crc.Byte at hy
          omega
      · have e2 : marLast (be4 (chk d) ++ d) t = be4 (chk d) ++ marLast d t := marLast_append _ _ _ hd0
        rw [e2]
        have h4 : (be4 d.length ++ (be4 (chk d) ++ marLast d t)).drop 4 = be4 (chk d) ++ marLast d t := List.drop_left' (be4_length _)
        have hd8 : (be4 d.length ++ (be4 (chk d) ++ marLast d t)).drop 8 = marLast d t := by
          rw [← List.append_assoc, List.drop_left' (by simp [be4_length])]
        rw [h4, hd8, num_be4 _ (chk_lt d), Int.toNat_natCast, List.take_of_length_le (by rw [marLast_length]; omega)]
        rw [if_neg]
        · decide
        · intro he
          exact chk_mar hd hd0 ht ht0 (by omega)
/-- TORN: the whole ones ahead of the cut are read, and nothing else. -/
theorem torn_split : ∀ (ds : List (List Int)) (cut : Nat), cut ≤ (all ds).length → ∃ w, w ≤ ds.length ∧ (all (ds.take w)).length ≤ cut ∧ (cut = (all (ds.take w)).length ∨ ∃ h : w < ds.length, cut < (all (ds.take w)).length + (rec_ ds[w]).length)
  | [], cut, h => ⟨0, Nat.le_refl _, Nat.zero_le _, .inl (by simpa [all] using h)⟩
  | d :: ds, cut, h => by
    by_cases hc : cut < (rec_ d).length
    · by_cases h0 : cut = 0
      · exact ⟨0, Nat.zero_le _, Nat.zero_le _, .inl (by simpa [all] using h0)⟩
      · exact ⟨0, Nat.zero_le _, Nat.zero_le _, .inr ⟨by simp, by simpa [all] using hc⟩⟩
    · obtain ⟨w, h1, h2, h3⟩ := torn_split ds (cut - (rec_ d).length) (by rw [all_cons, List.length_append] at h; omega)
      refine ⟨w + 1, by simpa using h1, ?_, ?_⟩
      · rw [List.take_succ_cons, all_cons, List.length_append]; omega
      · rw [List.take_succ_cons, all_cons, List.length_append]
        rcases h3 with h3 | ⟨hw, h3⟩
        · left; omega
        · right
          refine ⟨by simpa using hw, ?_⟩
          simp only [List.getElem_cons_succ]
          omega
end Frame
end Go.Proofs.Ythpdmjpimeibnaa.Pure
