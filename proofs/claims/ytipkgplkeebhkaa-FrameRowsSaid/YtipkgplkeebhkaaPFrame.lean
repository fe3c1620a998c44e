/-
  The frame layer's functions, and the document's, come to the plain records.
-/
import Derived.Test.YtipkgplkeebhkaaMx6
import Derived.Test.YtipkgplkeebhkaaTFrame
import Derived.Test.YtipkgplkeebhkaaPRef03
namespace Go.Proofs.Ytipkgplkeebhkaa.Pure
open Go.RowKit Go.Proofs.Ytipkgplkeebhkaa.M Go.Proofs.YtipkgplkeebhkaaW.PrintWords Go.Proofs.YtipkgplkeebhkaaW.PrintLast Go.Proofs.YtipkgplkeebhkaaW.PrintMore
namespace Frame
theorem wrap63 (n : Int) (h0 : 0 ≤ n) (h : n < 2 ^ 63) : IntKind.i64.wrap n = n := by rw [IntKind.wrap_i64]; omega
theorem or_add (i : Nat) (x y : Int) (hx : 0 ≤ x) (hm : x % 2 ^ i = 0) (hx1 : x < 9223372036854775808) (hy : 0 ≤ y) (hy1 : y < 2 ^ i) (hy2 : y < 9223372036854775808) : Go.bits .or .i64 x y = x + y :=
  bits_join .i64 63 (by decide) wrap63 i x y hx hm (by simpa using hx1) hy hy1 (by simpa using hy2)
theorem four_bits (a b c d : Int) (ha : Crc.Byte a) (hb : Crc.Byte b) (hc : Crc.Byte c) (hd : Crc.Byte d) :
    Go.bits .or .i64 (Go.bits .or .i64 (Go.bits .or .i64 (wrap64 ((wrap64 a) * 16777216)) (wrap64 ((wrap64 b) * 65536))) (wrap64 ((wrap64 c) * 256))) (wrap64 d) = a * 16777216 + b * 65536 + c * 256 + d := by
  unfold Crc.Byte at ha hb hc hd
  rw [w64 (i := a) (by omega) (by omega), w64 (i := b) (by omega) (by omega), w64 (i := c) (by omega) (by omega), w64 (i := d) (by omega) (by omega),
    w64 (i := a * 16777216) (by omega) (by omega), w64 (i := b * 65536) (by omega) (by omega), w64 (i := c * 256) (by omega) (by omega)]
  rw [or_add 24 (a * 16777216) (b * 65536) (by omega) (by omega) (by omega) (by omega) (by omega) (by omega)]
  rw [or_add 16 (a * 16777216 + b * 65536) (c * 256) (by omega) (by omega) (by omega) (by omega) (by omega) (by omega)]
  rw [or_add 8 (a * 16777216 + b * 65536 + c * 256) d (by omega) (by omega) (by omega) (by omega) (by omega) (by omega)]
theorem rd_get (l : List Int) (i : Nat) : rd l (i : Int) = l.getD i 0 := by unfold rd; rw [Int.toNat_natCast]
theorem four_some (l : List Int) (h : Bytes l) (h4 : 4 ≤ l.length) : frame_four.f l = some (num l) := by
  unfold frame_four.f
  rw [if_pos (by omega), if_pos (by omega), if_pos (by omega), if_pos (by omega)]
  have := four_bits _ _ _ _ (getD_byte h 0) (getD_byte h 1) (getD_byte h 2) (getD_byte h 3)
  have e0 := rd_get l 0
  have e1 := rd_get l 1
  have e2 := rd_get l 2
  have e3 := rd_get l 3
  have e0' : rd l 0 = l.getD 0 0 := e0
  have e1' : rd l 1 = l.getD 1 0 := e1
  have e2' : rd l 2 = l.getD 2 0 := e2
  have e3' : rd l 3 = l.getD 3 0 := e3
  rw [e0', e1', e2', e3', this]
  rfl
theorem read_ev (l : List Int) (h : Bytes l) (hl : l.length ≤ 134217728) : Ev (fun k => frame_Read.f k l) (read l) := by
  unfold frame_Read.f read
  by_cases h1 : l.length < 8
  · rw [if_pos h1]
    exact Ev.pos (by omega) (Ev.now _)
  · rw [if_neg h1]
    refine Ev.neg (by omega) ?_
    rw [four_some l h (by omega)]
    refine Ev.let_ ?_
    have hn := num_bound h
    by_cases h2 : num l > 16384
    · rw [if_pos h2]
      exact Ev.pos h2 (Ev.now _)
    · rw [if_neg h2]
      refine Ev.neg h2 ?_
      rw [w64 (i := (l.length : Int) - 8) (by omega) (by omega)]
      by_cases h3 : num l > (l.length : Int) - 8
      · rw [if_pos h3]
        exact Ev.pos h3 (Ev.now _)
      · rw [if_neg h3]
        refine Ev.neg h3 (Ev.let_ ?_)
        rw [w64 (i := 8 + num l) (by omega) (by omega)]
        refine Ev.pos (by omega) (Ev.pos (by omega) (Ev.pos ?_ (Ev.let_ ?_)))
        · simp only [List.length_nil, List.length_drop, List.length_take]
          omega
        · have e : ([] ++ ((l.take (8 + num l).toNat).drop 8) : List Int) = (l.drop 8).take (num l).toNat := by
            rw [List.nil_append, List.drop_take]
            congr 1
            omega
          rw [e]
          have hd : Bytes ((l.drop 8).take (num l).toNat) := (h.drop 8).take _
          refine Ev.bind (Crc.of_ev _ hd (by rw [List.length_take]; omega)) (Ev.pos (by omega) ?_)
          rw [four_some _ (h.drop 4) (by rw [List.length_drop]; omega)]
          refine Ev.let_ ?_
          have hc := chk_lt ((l.drop 8).take (num l).toNat)
          unfold chk at hc ⊢
          rw [w64 (by omega) (by omega)]
          by_cases h4 : ((Crc.crc 0#32 ((l.drop 8).take (num l).toNat)).toNat : Int) = num (l.drop 4)
          · refine Ev.eq (Ev.pos h4 (Ev.now _)) ?_
            rw [if_pos h4]
          · refine Ev.eq (Ev.neg h4 (Ev.now _)) ?_
            rw [if_neg h4]
theorem append_long (b d : List Int) (h : 16384 < d.length) : Ev (fun k => frame_Append.f k b d) ([], 2) := by
  unfold frame_Append.f
  exact Ev.pos (by omega) (Ev.now _)
theorem append_ev (b d : List Int) (hd : Bytes d) (h : d.length ≤ 16384) (hb : b.length ≤ 134217728) : Ev (fun k => frame_Append.f k b d) (b ++ rec_ d, 0) := by
  unfold frame_Append.f
  refine Ev.neg (by omega) (Ev.bind (Crc.of_ev d hd (by omega)) (Ev.let_ (Ev.pos (by simp; omega) (Ev.let_ (Ev.let_ (Ev.pos (by simp; omega) (Ev.let_ (Ev.pos (by simp; omega) (Ev.some_ ?_)))))))))
  have hc := chk_lt d
  unfold chk at hc
  simp only [Prod.mk.injEq, and_true, List.nil_append]
  rw [List.append_assoc]
  congr 1
/-! the document's -/
theorem ref_four (n : Nat) (hn : n < 4294967296) : contraref05_four.f (n : Int) = some (strOfNums (be4 n)) := by
  unfold contraref05_four.f be4
  have e1 : Int.tdiv (n : Int) 16777216 = ((n / 16777216 : Nat) : Int) := by rw [Int.tdiv_eq_ediv_of_nonneg (by omega)]; omega
  have e2 : Int.tdiv (n : Int) 65536 = ((n / 65536 : Nat) : Int) := by rw [Int.tdiv_eq_ediv_of_nonneg (by omega)]; omega
  have e3 : Int.tdiv (n : Int) 256 = ((n / 256 : Nat) : Int) := by rw [Int.tdiv_eq_ediv_of_nonneg (by omega)]; omega
  rw [e1, e2, e3, w64 (by omega) (by omega), w64 (by omega) (by omega), w64 (by omega) (by omega), Int.tmod_eq_emod_of_nonneg (by omega), Int.tmod_eq_emod_of_nonneg (by omega), Int.tmod_eq_emod_of_nonneg (by omega)]
  congr 3
  · congr 1
    · omega
    congr 1
    · omega
    congr 1
    omega
theorem ref_write_long (s : ByteArray) (h : 16384 < s.size) : Ev (fun k => contraref05_Write.f k s) (⟨#[]⟩, 2) := by
  unfold contraref05_Write.f
  exact Ev.pos (by omega) (Ev.now _)
theorem ref_write_ev (s : ByteArray) (h : s.size ≤ 16384) : Ev (fun k => contraref05_Write.f k s) (strOfNums (rec_ (bs s)), 0) := by
  unfold contraref05_Write.f
  refine Ev.neg (by omega) ?_
  rw [ref_four s.size (by omega)]
  refine Ev.let_ (Ev.bind (Ref03.of_ev s (by omega)) ?_)
  have hf := ref_four _ (chk_lt (bs s))
  unfold chk at hf
  rw [hf]
  refine Ev.let_ ?_
  have z : ∀ n, (strOfNums (be4 n)).size = 4 := fun n => by rw [strOfNums_size]; rfl
  refine Ev.pos (by rw [z, z]; decide) (Ev.pos (by rw [ByteArray.size_append, z, z]; omega) (Ev.some_ ?_))
  simp only [Prod.mk.injEq, and_true]
  apply bs_inj
  rw [bs_append, bs_append, bs_str _ (be4_bytes _), bs_str _ (be4_bytes _), bs_str _ (rec_bytes (bs_byte s)), List.append_assoc]
  unfold rec_
  rw [bs_length]
  rfl
theorem ref_number (s : ByteArray) (a : Nat) (h : a + 4 ≤ s.size) (hs : s.size ≤ 134217728) : contraref05_number.f s (a : Int) = some (num ((bs s).drop a)) := by
  unfold contraref05_number.f
  rw [w64 (i := (a : Int) + 1) (by omega) (by omega), w64 (i := (a : Int) + 2) (by omega) (by omega), w64 (i := (a : Int) + 3) (by omega) (by omega)]
  rw [if_pos (by omega), if_pos (by omega), if_pos (by omega), if_pos (by omega), if_pos (by omega), if_pos (by omega), if_pos (by omega), if_pos (by omega)]
  have hl : ∀ i : Nat, i < 4 → bt s ((a : Int) + (i : Int)) = ((bs s).drop a).getD i 0 := fun i hi => by
    have := bt_bs s (a + i) (by omega)
    rw [show ((a + i : Nat) : Int) = (a : Int) + (i : Int) from by omega] at this
    rw [this, List.getD_eq_getElem?_getD, List.getElem?_drop, List.getElem?_eq_getElem (by rw [bs_length]; omega)]
    rfl
  have h0 : bt s (a : Int) = ((bs s).drop a).getD 0 0 := by simpa using hl 0 (by decide)
  have h1 : bt s ((a : Int) + 1) = ((bs s).drop a).getD 1 0 := hl 1 (by decide)
  have h2 : bt s ((a : Int) + 2) = ((bs s).drop a).getD 2 0 := hl 2 (by decide)
  have h3 : bt s ((a : Int) + 3) = ((bs s).drop a).getD 3 0 := hl 3 (by decide)
  rw [h0, h1, h2, h3]
  have hb : Bytes ((bs s).drop a) := Bytes.drop (bs_byte s) a
  have b0 := getD_byte hb 0
  have b1 := getD_byte hb 1
  have b2 := getD_byte hb 2
  have b3 := getD_byte hb 3
  unfold num
  generalize ((bs s).drop a).getD 0 0 = x0 at *
  generalize ((bs s).drop a).getD 1 0 = x1 at *
  generalize ((bs s).drop a).getD 2 0 = x2 at *
  generalize ((bs s).drop a).getD 3 0 = x3 at *
  unfold Crc.Byte at b0 b1 b2 b3
  rw [w64 (i := x0) (by omega) (by omega), w64 (i := x1) (by omega) (by omega), w64 (i := x2) (by omega) (by omega), w64 (i := x3) (by omega) (by omega)]
  rw [w64 (i := x0 * 16777216) (by omega) (by omega), w64 (i := x1 * 65536) (by omega) (by omega), w64 (i := x2 * 256) (by omega) (by omega)]
  rw [w64 (i := x0 * 16777216 + x1 * 65536) (by omega) (by omega), w64 (i := x0 * 16777216 + x1 * 65536 + x2 * 256) (by omega) (by omega), w64 (by omega) (by omega)]
theorem ref_read_ev (s : ByteArray) (a : Nat) (h : a ≤ s.size) (hs : s.size ≤ 134217728) : Ev (fun k => contraref05_Read.f k s (a : Int)) (strOfNums (read ((bs s).drop a)).1, (read ((bs s).drop a)).2.1, (read ((bs s).drop a)).2.2) := by
  have hb : Bytes ((bs s).drop a) := Bytes.drop (bs_byte s) a
  have hlen : ((bs s).drop a).length = s.size - a := by rw [List.length_drop, bs_length]
  unfold contraref05_Read.f read
  rw [w64 (i := (s.size : Int) - (a : Int)) (by omega) (by omega), w64 (i := (s.size : Int) - (a : Int) - 8) (by omega) (by omega)]
  by_cases h1 : ((bs s).drop a).length < 8
  · rw [if_pos h1]
    exact Ev.pos (by omega) (Ev.now _)
  · rw [if_neg h1]
    refine Ev.neg (by omega) ?_
    rw [ref_number s a (by omega) hs]
    refine Ev.let_ ?_
    have hn := num_bound hb
    by_cases h2 : num ((bs s).drop a) > 16384
    · rw [if_pos h2]
      exact Ev.pos h2 (Ev.now _)
    · rw [if_neg h2]
      refine Ev.neg h2 ?_
      by_cases h3 : num ((bs s).drop a) > (((bs s).drop a).length : Int) - 8
      · rw [if_pos h3]
        exact Ev.pos (by omega) (Ev.now _)
      · rw [if_neg h3]
        refine Ev.neg (by omega) ?_
        rw [w64 (i := (a : Int) + 8) (by omega) (by omega), w64 (i := (a : Int) + 8 + num ((bs s).drop a)) (by omega) (by omega), w64 (i := (a : Int) + 4) (by omega) (by omega), w64 (i := 8 + num ((bs s).drop a)) (by omega) (by omega)]
        refine Ev.pos (by omega) (Ev.pos (by omega) (Ev.pos (by omega) ?_))
        have e8 : ((a : Int) + 8).toNat = a + 8 := by omega
        have e9 : ((a : Int) + 8 + num ((bs s).drop a)).toNat = a + 8 + (num ((bs s).drop a)).toNat := by omega
        have e4 : (a : Int) + 4 = ((a + 4 : Nat) : Int) := by omega
        rw [e8, e9, e4]
        have ed : bs (s.extract (a + 8) (a + 8 + (num ((bs s).drop a)).toNat)) = (((bs s).drop a).drop 8).take (num ((bs s).drop a)).toNat := by
          rw [bs_extract, List.drop_take, List.drop_drop]
          congr 1
          omega
        have hr := Ref03.of_ev (s.extract (a + 8) (a + 8 + (num ((bs s).drop a)).toNat)) (by rw [ByteArray.size_extract]; omega)
        rw [ed] at hr
        refine Ev.bind hr ?_
        rw [ref_number s (a + 4) (by omega) hs]
        refine Ev.let_ ?_
        have e5 : num ((bs s).drop (a + 4)) = num (((bs s).drop a).drop 4) := by rw [List.drop_drop]
        rw [e5]
        unfold chk
        have es : s.extract (a + 8) (a + 8 + (num ((bs s).drop a)).toNat) = strOfNums ((((bs s).drop a).drop 8).take (num ((bs s).drop a)).toNat) := by rw [← ed, str_bs]
        by_cases h4 : ((Crc.crc 0#32 ((((bs s).drop a).drop 8).take (num ((bs s).drop a)).toNat)).toNat : Int) = num (((bs s).drop a).drop 4)
        · refine Ev.eq (Ev.pos h4 (Ev.now _)) ?_
          rw [if_pos h4, es]
        · refine Ev.eq (Ev.neg h4 (Ev.now _)) ?_
          rw [if_neg h4]
          rfl
/-! all records -/
theorem scan_ev (l : List Int) (h : Bytes l) (hl : l.length ≤ 134217728) (d : Nat) : ∀ (a : Nat) (acc : List (List Int)), a ≤ l.length → l.length - a ≤ d → acc.length + d ≤ 1000000000 →
    Ev (fun k => frame_Scan.l0 k l acc (a : Int)) (acc ++ (scan d (l.drop a)).1, (a : Int) + (scan d (l.drop a)).2) := by
  induction d with
  | zero =>
    intro a acc ha hd _
    refine Ev.up ?_
    simp only [frame_Scan.l0]
    refine Ev.neg (by omega) (Ev.some_ ?_)
    simp [scan]
  | succ d ih =>
    intro a acc ha hd hacc
    refine Ev.up ?_
    simp only [frame_Scan.l0]
    by_cases hlt : a < l.length
    · refine Ev.pos (by omega) (Ev.pos (by omega) (Ev.pos (by omega) ?_))
      rw [Int.toNat_natCast]
      have hb := h.drop a
      refine Ev.bind (read_ev _ hb (by rw [List.length_drop]; omega)) ?_
      have hlen : (l.drop a).length = l.length - a := List.length_drop
      unfold scan
      rw [if_neg (by omega)]
      by_cases hr : (read (l.drop a)).2.2 = 0
      · rw [if_pos hr]
        have hp := read_pos hb hr
        refine Ev.pos hr (Ev.pos (by omega) ?_)
        rw [w64 (by omega) (by omega)]
        have hn : (a : Int) + (read (l.drop a)).2.1 = ((a + (read (l.drop a)).2.1.toNat : Nat) : Int) := by omega
        rw [hn]
        have := ih (a + (read (l.drop a)).2.1.toNat) (acc ++ [(read (l.drop a)).1]) (by omega) (by omega) (by simp; omega)
        refine Ev.eq this ?_
        rw [List.drop_drop, List.append_assoc]
        simp only [Prod.mk.injEq]
        refine ⟨rfl, ?_⟩
        omega
      · rw [if_neg hr]
        refine Ev.neg hr (Ev.some_ ?_)
        simp
    · refine Ev.neg (by omega) (Ev.some_ ?_)
      have : l.drop a = [] := List.drop_eq_nil_of_le (by omega)
      rw [this]
      simp [scan]
theorem ref_scan_ev (s : ByteArray) (hs : s.size ≤ 134217728) (d : Nat) : ∀ (a : Nat) (acc : List ByteArray), a ≤ s.size → s.size - a ≤ d → acc.length + d ≤ 1000000000 →
    Ev (fun k => contraref05_Scan.l0 k s acc (a : Int)) (acc ++ (scan d ((bs s).drop a)).1.map strOfNums, (a : Int) + (scan d ((bs s).drop a)).2) := by
  induction d with
  | zero =>
    intro a acc ha hd _
    refine Ev.up ?_
    simp only [contraref05_Scan.l0]
    refine Ev.neg (by omega) (Ev.some_ ?_)
    simp [scan]
  | succ d ih =>
    intro a acc ha hd hacc
    refine Ev.up ?_
    simp only [contraref05_Scan.l0]
    by_cases hlt : a < s.size
    · refine Ev.pos (by omega) ?_
      have hb : Bytes ((bs s).drop a) := Bytes.drop (bs_byte s) a
      refine Ev.bind (ref_read_ev s a ha hs) ?_
      have hlen : ((bs s).drop a).length = s.size - a := by rw [List.length_drop, bs_length]
      unfold scan
      rw [if_neg (by omega)]
      by_cases hr : (read ((bs s).drop a)).2.2 = 0
      · rw [if_pos hr]
        have hp := read_pos hb hr
        refine Ev.pos hr (Ev.pos (by omega) ?_)
        dsimp only
        rw [w64 (by omega) (by omega)]
        have hn : (a : Int) + (read ((bs s).drop a)).2.1 = ((a + (read ((bs s).drop a)).2.1.toNat : Nat) : Int) := by omega
        rw [hn]
        have := ih (a + (read ((bs s).drop a)).2.1.toNat) (acc ++ [strOfNums (read ((bs s).drop a)).1]) (by omega) (by omega) (by simp; omega)
        refine Ev.eq this ?_
        rw [List.drop_drop, List.append_assoc, List.map_cons]
        simp only [Prod.mk.injEq]
        refine ⟨rfl, ?_⟩
        omega
      · rw [if_neg hr]
        refine Ev.neg hr (Ev.some_ ?_)
        simp
    · refine Ev.neg (by omega) (Ev.some_ ?_)
      have : (bs s).drop a = [] := List.drop_eq_nil_of_le (by rw [bs_length]; omega)
      rw [this]
      simp [scan]
theorem records_ev : Ev (fun k => contralaw05_records.f k) true := by
  unfold contralaw05_records.f
  have h := append_ev [120] [49, 50, 51, 52, 53, 54, 55, 56, 57] (by intro x hx; simp at hx; unfold Crc.Byte; omega) (by decide) (by decide)
  refine Ev.bind h (Ev.pos rfl (Ev.pos ?_ (Ev.now _)))
  have e : [120] ++ rec_ [49, 50, 51, 52, 53, 54, 55, 56, 57] = [120, 0, 0, 0, 9, 203, 244, 57, 38, 49, 50, 51, 52, 53, 54, 55, 56, 57] := by decide +kernel
  rw [e, ByteArray.toList_eq, strOfNums_data]
  rfl
end Frame
end Go.Proofs.Ytipkgplkeebhkaa.Pure
