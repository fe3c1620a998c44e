/-
  The document's frame functions come to the plain records.
-/
import Derived.Test.YthpdmjpimeibnaaMx7
import Derived.Test.YthpdmjpimeibnaaPFrame6
import Derived.Test.YthpdmjpimeibnaaPRef03
namespace Go.Proofs.Ythpdmjpimeibnaa.Pure
open Go.RowKit Go.Proofs.Ythpdmjpimeibnaa.M Go.Proofs.YthpdmjpimeibnaaW.PrintWords Go.Proofs.YthpdmjpimeibnaaW.PrintLast Go.Proofs.YthpdmjpimeibnaaW.PrintMore
namespace Frame
theorem ref_number (s : ByteArray) (a : Nat) (h : a + 4 ≤ s.size) (hs : s.size ≤ 134217728) : contraref05_number.f s (a : Int) = some (num ((bs s).drop a)) := by
  unfold contraref05_number.f
  rw [w64 (i := (a : Int) + 1) (by omega) (by omega), w64 (i := (a : Int) + 2) (by omega) (by omega), w64 (i := (a : Int) + 3) (by omega) (by omega)]
  rw [if_pos (by omega), if_pos (by omega), if_pos (by omega), if_pos (by omega), if_pos (by omega), if_pos (by omega), if_pos (by omega), if_pos (by omega)]
  have hl : ∀ i : Nat, i < 4 → bt s ((a : Int) + (i : Int)) = ((bs s).drop a).getD i 0 := fun i hi => by
    have := bt_bs s (a + i) (by omega)
    rw [show ((a + i : Nat) : Int) = (a : Int) + (i : Int) from by omega] at this
    rw [this, List.getD_eq_getElem?_getD, List.getElem?_drop, List.getElem?_eq_getElem (by rw [bs_length]; omega)]
    rfl
  have h0 : bt s (a : Int) = ((bs s).drop a).getD 0 0 := by simpa using hl 0 (by decide)
  have h1 : bt s ((a : Int) + 1) = ((bs s).drop a).getD 1 0 := hl 1 (by decide)
  have h2 : bt s ((a : Int) + 2) = ((bs s).drop a).getD 2 0 := hl 2 (by decide)
  have h3 : bt s ((a : Int) + 3) = ((bs s).drop a).getD 3 0 := hl 3 (by decide)
  rw [h0, h1, h2, h3]
  have hb : Bytes ((bs s).drop a) := Bytes.drop (bs_byte s) a
  have b0 := getD_byte hb 0
  have b1 := getD_byte hb 1
  have b2 := getD_byte hb 2
  have b3 := getD_byte hb 3
  unfold num
  generalize ((bs s).drop a).getD 0 0 = x0 at *
  generalize ((bs s).drop a).getD 1 0 = x1 at *
  generalize ((bs s).drop a).getD 2 0 = x2 at *
  generalize ((bs s).drop a).getD 3 0 = x3 at *
  unfold Crc.Byte at b0 b1 b2 b3
  rw [w64 (i := x0) (by omega) (by omega), w64 (i := x1) (by omega) (by omega), w64 (i := x2) (by omega) (by omega), w64 (i := x3) (by omega) (by omega)]
  rw [w64 (i := x0 * 16777216) (by omega) (by omega), w64 (i := x1 * 65536) (by omega) (by omega), w64 (i := x2 * 256) (by omega) (by omega)]
  rw [w64 (i := x0 * 16777216 + x1 * 65536) (by omega) (by omega), w64 (i := x0 * 16777216 + x1 * 65536 + x2 * 256) (by omega) (by omega), w64 (by omega) (by omega)]
theorem ref_read_ev (s : ByteArray) (a : Nat) (h : a ≤ s.size) (hs : s.size ≤ 134217728) : Ev (fun k => contraref05_Read.f k s (a : Int)) (strOfNums (read ((bs s).drop a)).1, (read ((bs s).drop a)).2.1, (read ((bs s).drop a)).2.2) := by
  have hb : Bytes ((bs s).drop a) := Bytes.drop (bs_byte s) a
  have hlen : ((bs s).drop a).length = s.size - a := by rw [List.length_drop, bs_length]
  unfold contraref05_Read.f read
  rw [w64 (i := (s.size : Int) - (a : Int)) (by omega) (by omega), w64 (i := (s.size : Int) - (a : Int) - 8) (by omega) (by omega)]
  by_cases h1 : ((bs s).drop a).length < 8
  · rw [if_pos h1]
    exact Ev.pos (by omega) (Ev.now _)
  · rw [if_neg h1]
    refine Ev.neg (by omega) ?_
    rw [ref_number s a (by omega) hs]
    refine Ev.let_ ?_
    have hn := num_bound hb
    by_cases h2 : num ((bs s).drop a) > 16384
    · rw [if_pos h2]
      exact Ev.pos h2 (Ev.now _)
    · rw [if_neg h2]
      refine Ev.neg h2 ?_
      by_cases h3 : num ((bs s).drop a) > (((bs s).drop a).length : Int) - 8
      · rw [if_pos h3]
        exact Ev.pos (by omega) (Ev.now _)
      · rw [if_neg h3]
        refine Ev.neg (by omega) ?_
        rw [w64 (i := (a : Int) + 8) (by omega) (by omega), w64 (i := (a : Int) + 8 + num ((bs s).drop a)) (by omega) (by omega), w64 (i := (a : Int) + 4) (by omega) (by omega), w64 (i := 8 + num ((bs s).drop a)) (by omega) (by omega)]
        refine Ev.pos (by omega) (Ev.pos (by omega) (Ev.pos (by omega) ?_))
        have e8 : ((a : Int) + 8).toNat = a + 8 := by omega
        have e9 : ((a : Int) + 8 + num ((bs s).drop a)).toNat = a + 8 + (num ((bs s).drop a)).toNat := by omega
        have e4 : (a : Int) + 4 = ((a + 4 : Nat) : Int) := by omega
        rw [e8, e9, e4]
        have ed : bs (s.extract (a + 8) (a + 8 + (num ((bs s).drop a)).toNat)) = (((bs s).drop a).drop 8).take (num ((bs s).drop a)).toNat := by
          rw [bs_extract, List.drop_take, List.drop_drop]
          congr 1
          omega
        have hr := Ref03.of_ev (s.extract (a + 8) (a + 8 + (num ((bs s).drop a)).toNat)) (by rw [ByteArray.size_extract]; omega)
        rw [ed] at hr
        refine Ev.bind hr ?_
        rw [ref_number s (a + 4) (by omega) hs]
        refine Ev.let_ ?_
        have e5 : num ((bs s).drop (a + 4)) = num (((bs s).drop a).drop 4) := by rw [List.drop_drop]
        rw [e5]
        unfold chk
        have es : s.extract (a + 8) (a + 8 + (num ((bs s).drop a)).toNat) = strOfNums ((((bs s).drop a).drop 8).take (num ((bs s).drop a)).toNat) := by rw [← ed, str_bs]
        by_cases h4 : ((Crc.crc 0#32 ((((bs s).drop a).drop 8).take (num ((bs s).drop a)).toNat)).toNat : Int) = num (((bs s).drop a).drop 4)
        · refine Ev.eq (Ev.pos h4 (Ev.now _)) ?_
          rw [if_pos h4, es]
        · refine Ev.eq (Ev.neg h4 (Ev.now _)) ?_
          rw [if_neg h4]
          rfl
/-! all records -/
theorem ref_scan_ev (s : ByteArray) (hs : s.size ≤ 134217728) (d : Nat) : ∀ (a : Nat) (acc : List ByteArray), a ≤ s.size → s.size - a ≤ d → acc.length + d ≤ 1000000000 →
    Ev (fun k => contraref05_Scan.l0 k s acc (a : Int)) (acc ++ (scan d ((bs s).drop a)).1.map strOfNums, (a : Int) + (scan d ((bs s).drop a)).2) := by
  induction d with
  | zero =>
    intro a acc ha hd _
    refine Ev.up ?_
    simp only [contraref05_Scan.l0]
    refine Ev.neg (by omega) (Ev.some_ ?_)
    simp [scan]
  | succ d ih =>
    intro a acc ha hd hacc
    refine Ev.up ?_
    simp only [contraref05_Scan.l0]
    by_cases hlt : a < s.size
    · refine Ev.pos (by omega) ?_
      have hb : Bytes ((bs s).drop a) := Bytes.drop (bs_byte s) a
      refine Ev.bind (ref_read_ev s a ha hs) ?_
      have hlen : ((bs s).drop a).length = s.size - a := by rw [List.length_drop, bs_length]
      unfold scan
      rw [if_neg (by omega)]
      by_cases hr : (read ((bs s).drop a)).2.2 = 0
      · rw [if_pos hr]
        have hp := read_pos hb hr
        refine Ev.pos hr (Ev.pos (by omega) ?_)
        dsimp only
        rw [w64 (by omega) (by omega)]
        have hn : (a : Int) + (read ((bs s).drop a)).2.1 = ((a + (read ((bs s).drop a)).2.1.toNat : Nat) : Int) := by omega
        rw [hn]
        have := ih (a + (read ((bs s).drop a)).2.1.toNat) (acc ++ [strOfNums (read ((bs s).drop a)).1]) (by omega) (by omega) (by simp; omega)
        refine Ev.eq this ?_
        rw [List.drop_drop, List.append_assoc, List.map_cons]
        simp only [Prod.mk.injEq]
        refine ⟨rfl, ?_⟩
        omega
      · rw [if_neg hr]
        refine Ev.neg hr (Ev.some_ ?_)
        simp
    · refine Ev.neg (by omega) (Ev.some_ ?_)
      have : (bs s).drop a = [] := List.drop_eq_nil_of_le (by rw [bs_length]; omega)
      rw [this]
      simp [scan]
end Frame
end Go.Proofs.Ythpdmjpimeibnaa.Pure
