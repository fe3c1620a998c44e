/-
  The frame layer's functions, and the document's, come to the plain records.
-/
import Derived.Test.YthpdmjpimeibnaaMx4
import Derived.Test.YthpdmjpimeibnaaTFrame
import Derived.Test.YthpdmjpimeibnaaPCrc6
import Derived.Test.YthpdmjpimeibnaaPEv
import Derived.Test.YthpdmjpimeibnaaPStr
namespace Go.Proofs.Ythpdmjpimeibnaa.Pure
open Go.RowKit Go.Proofs.Ythpdmjpimeibnaa.M Go.Proofs.YthpdmjpimeibnaaW.PrintWords Go.Proofs.YthpdmjpimeibnaaW.PrintLast Go.Proofs.YthpdmjpimeibnaaW.PrintMore
namespace Frame
theorem wrap63 (n : Int) (h0 : 0 ≤ n) (h : n < 2 ^ 63) : IntKind.i64.wrap n = n := by rw [IntKind.wrap_i64]; omega
theorem or_add (i : Nat) (x y : Int) (hx : 0 ≤ x) (hm : x % 2 ^ i = 0) (hx1 : x < 9223372036854775808) (hy : 0 ≤ y) (hy1 : y < 2 ^ i) (hy2 : y < 9223372036854775808) : Go.bits .or .i64 x y = x + y :=
  bits_join .i64 63 (by decide) wrap63 i x y hx hm (by simpa using hx1) hy hy1 (by simpa using hy2)
theorem four_bits (a b c d : Int) (ha : Crc.Byte a) (hb : Crc.Byte b) (hc : Crc.Byte c) (hd : Crc.Byte d) :
    Go.bits .or .i64 (Go.bits .or .i64 (Go.bits .or .i64 (wrap64 ((wrap64 a) * 16777216)) (wrap64 ((wrap64 b) * 65536))) (wrap64 ((wrap64 c) * 256))) (wrap64 d) = a * 16777216 + b * 65536 + c * 256 + d := by
  unfold Crc.Byte at ha hb hc hd
  rw [w64 (i := a) (by omega) (by omega), w64 (i := b) (by omega) (by omega), w64 (i := c) (by omega) (by omega), w64 (i := d) (by omega) (by omega),
    w64 (i := a * 16777216) (by omega) (by omega), w64 (i := b * 65536) (by omega) (by omega), w64 (i := c * 256) (by omega) (by omega)]
  rw [or_add 24 (a * 16777216) (b * 65536) (by omega) (by omega) (by omega) (by omega) (by omega) (by omega)]
  rw [or_add 16 (a * 16777216 + b * 65536) (c * 256) (by omega) (by omega) (by omega) (by omega) (by omega) (by omega)]
  rw [or_add 8 (a * 16777216 + b * 65536 + c * 256) d (by omega) (by omega) (by omega) (by omega) (by omega) (by omega)]
theorem rd_get (l : List Int) (i : Nat) : rd l (i : Int) = l.getD i 0 := by unfold rd; rw [Int.toNat_natCast]
theorem four_some (l : List Int) (h : Bytes l) (h4 : 4 ≤ l.length) : frame_four.f l = some (num l) := by
  unfold frame_four.f
  rw [if_pos (by omega), if_pos (by omega), if_pos (by omega), if_pos (by omega)]
  have := four_bits _ _ _ _ (getD_byte h 0) (getD_byte h 1) (getD_byte h 2) (getD_byte h 3)
  have e0 := rd_get l 0
  have e1 := rd_get l 1
  have e2 := rd_get l 2
  have e3 := rd_get l 3
  have e0' : rd l 0 = l.getD 0 0 := e0
  have e1' : rd l 1 = l.getD 1 0 := e1
  have e2' : rd l 2 = l.getD 2 0 := e2
  have e3' : rd l 3 = l.getD 3 0 := e3
  rw [e0', e1', e2', e3', this]
  rfl
theorem read_ev (l : List Int) (h : Bytes l) (hl : l.length ≤ 134217728) : Ev (fun k => frame_Read.f k l) (read l) := by
  unfold frame_Read.f read
  by_cases h1 : l.length < 8
  · rw [if_pos h1]
    exact Ev.pos (by omega) (Ev.now _)
  · rw [if_neg h1]
    refine Ev.neg (by omega) ?_
    rw [four_some l h (by omega)]
    refine Ev.let_ ?_
    have hn := num_bound h
    by_cases h2 : num l > 16384
    · rw [if_pos h2]
      exact Ev.pos h2 (Ev.now _)
    · rw [if_neg h2]
      refine Ev.neg h2 ?_
      rw [w64 (i := (l.length : Int) - 8) (by omega) (by omega)]
      by_cases h3 : num l > (l.length : Int) - 8
      · rw [if_pos h3]
        exact Ev.pos h3 (Ev.now _)
      · rw [if_neg h3]
        refine Ev.neg h3 (Ev.let_ ?_)
        rw [w64 (i := 8 + num l) (by omega) (by omega)]
        refine Ev.pos (by omega) (Ev.pos (by omega) (Ev.pos ?_ (Ev.let_ ?_)))
        · simp only [List.length_nil, List.length_drop, List.length_take]
          omega
        · have e : ([] ++ ((l.take (8 + num l).toNat).drop 8) : List Int) = (l.drop 8).take (num l).toNat := by
            rw [List.nil_append, List.drop_take]
            congr 1
            omega
          rw [e]
          have hd : Bytes ((l.drop 8).take (num l).toNat) := (h.drop 8).take _
          refine Ev.bind (Crc.of_ev _ hd (by rw [List.length_take]; omega)) (Ev.pos (by omega) ?_)
          rw [four_some _ (h.drop 4) (by rw [List.length_drop]; omega)]
          refine Ev.let_ ?_
          have hc := chk_lt ((l.drop 8).take (num l).toNat)
          unfold chk at hc ⊢
          rw [w64 (by omega) (by omega)]
          by_cases h4 : ((Crc.crc 0#32 ((l.drop 8).take (num l).toNat)).toNat : Int) = num (l.drop 4)
          · refine Ev.eq (Ev.pos h4 (Ev.now _)) ?_
            rw [if_pos h4]
          · refine Ev.eq (Ev.neg h4 (Ev.now _)) ?_
            rw [if_neg h4]
theorem append_long (b d : List Int) (h : 16384 < d.length) : Ev (fun k => frame_Append.f k b d) ([], 2) := by
  unfold frame_Append.f
  exact Ev.pos (by omega) (Ev.now _)
theorem append_ev (b d : List Int) (hd : Bytes d) (h : d.length ≤ 16384) (hb : b.length ≤ 134217728) : Ev (fun k => frame_Append.f k b d) (b ++ rec_ d, 0) := by
  unfold frame_Append.f
  refine Ev.neg (by omega) (Ev.bind (Crc.of_ev d hd (by omega)) (Ev.let_ (Ev.pos (by simp; omega) (Ev.let_ (Ev.let_ (Ev.pos (by simp; omega) (Ev.let_ (Ev.pos (by simp; omega) (Ev.some_ ?_)))))))))
  have hc := chk_lt d
  unfold chk at hc
  simp only [Prod.mk.injEq, and_true, List.nil_append]
  rw [List.append_assoc]
  congr 1
/-! the document's -/
theorem scan_ev (l : List Int) (h : Bytes l) (hl : l.length ≤ 134217728) (d : Nat) : ∀ (a : Nat) (acc : List (List Int)), a ≤ l.length → l.length - a ≤ d → acc.length + d ≤ 1000000000 →
    Ev (fun k => frame_Scan.l0 k l acc (a : Int)) (acc ++ (scan d (l.drop a)).1, (a : Int) + (scan d (l.drop a)).2) := by
  induction d with
  | zero =>
    intro a acc ha hd _
    refine Ev.up ?_
    simp only [frame_Scan.l0]
    refine Ev.neg (by omega) (Ev.some_ ?_)
    simp [scan]
  | succ d ih =>
    intro a acc ha hd hacc
    refine Ev.up ?_
    simp only [frame_Scan.l0]
    by_cases hlt : a < l.length
    · refine Ev.pos (by omega) (Ev.pos (by omega) (Ev.pos (by omega) ?_))
      rw [Int.toNat_natCast]
      have hb := h.drop a
      refine Ev.bind (read_ev _ hb (by rw [List.length_drop]; omega)) ?_
      have hlen : (l.drop a).length = l.length - a := List.length_drop
      unfold scan
      rw [if_neg (by omega)]
      by_cases hr : (read (l.drop a)).2.2 = 0
      · rw [if_pos hr]
        have hp := read_pos hb hr
        refine Ev.pos hr (Ev.pos (by omega) ?_)
        rw [w64 (by omega) (by omega)]
        have hn : (a : Int) + (read (l.drop a)).2.1 = ((a + (read (l.drop a)).2.1.toNat : Nat) : Int) := by omega
        rw [hn]
        have := ih (a + (read (l.drop a)).2.1.toNat) (acc ++ [(read (l.drop a)).1]) (by omega) (by omega) (by simp; omega)
        refine Ev.eq this ?_
        rw [List.drop_drop, List.append_assoc]
        simp only [Prod.mk.injEq]
        refine ⟨rfl, ?_⟩
        omega
      · rw [if_neg hr]
        refine Ev.neg hr (Ev.some_ ?_)
        simp
    · refine Ev.neg (by omega) (Ev.some_ ?_)
      have : l.drop a = [] := List.drop_eq_nil_of_le (by omega)
      rw [this]
      simp [scan]
end Frame
end Go.Proofs.Ythpdmjpimeibnaa.Pure
