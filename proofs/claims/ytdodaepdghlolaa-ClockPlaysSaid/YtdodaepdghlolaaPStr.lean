/-
  Strings as lists of numbers.
-/
import Derived.Test.YtdodaepdghlolaaPEv
namespace Go.Proofs.Ytdodaepdghlolaa.Pure
open Go.RowKit Go.Proofs.YtdodaepdghlolaaW.PrintWords Go.Proofs.YtdodaepdghlolaaW.PrintLast Go.Proofs.YtdodaepdghlolaaW.PrintMore
abbrev bs (s : ByteArray) : List Int := Go.Proofs.YtdodaepdghlolaaW.PrintWords.bytesOf s
def IsByte (x : Int) : Prop := 0 ≤ x ∧ x < 256
theorem bs_length (s : ByteArray) : (bs s).length = s.size := by
  unfold bs Go.Proofs.YtdodaepdghlolaaW.PrintWords.bytesOf
  rw [List.length_map, Array.length_toList]
  rfl
theorem bs_byte (s : ByteArray) : ∀ x ∈ bs s, IsByte x := by
  intro x hx
  simp only [bs, Go.Proofs.YtdodaepdghlolaaW.PrintWords.bytesOf, List.mem_map] at hx
  obtain ⟨b, _, rfl⟩ := hx
  exact ⟨Int.natCast_nonneg _, by have := b.toNat_lt; omega⟩
theorem bs_mk (l : List UInt8) : bs ⟨l.toArray⟩ = l.map fun b => (b.toNat : Int) := rfl
theorem bs_str (l : List Int) (h : ∀ x ∈ l, IsByte x) : bs (strOfNums l) = l := by
  unfold bs Go.Proofs.YtdodaepdghlolaaW.PrintWords.bytesOf
  rw [strOfNums_data, List.map_map]
  conv => rhs; rw [← List.map_id l]
  apply List.map_congr_left
  intro x hx
  have := h x hx
  obtain ⟨m, rfl⟩ := Int.eq_ofNat_of_zero_le this.1
  have h2 : m < 256 := by have := this.2; omega
  simp only [Function.comp, Int.toNat_natCast, id]
  rw [UInt8.toNat_ofNat']
  omega
theorem str_bs (s : ByteArray) : strOfNums (bs s) = s := by
  unfold bs Go.Proofs.YtdodaepdghlolaaW.PrintWords.bytesOf
  unfold strOfNums
  rw [List.map_map]
  have : (fun n : Int => UInt8.ofNat n.toNat) ∘ (fun b : UInt8 => (b.toNat : Int)) = id := by
    funext b
    simp
  rw [this, List.map_id]
theorem bs_inj {s t : ByteArray} (h : bs s = bs t) : s = t := by rw [← str_bs s, ← str_bs t, h]
theorem bs_append (s t : ByteArray) : bs (s ++ t) = bs s ++ bs t := by
  unfold bs Go.Proofs.YtdodaepdghlolaaW.PrintWords.bytesOf
  rw [ByteArray.data_append, Array.toList_append, List.map_append]
theorem bs_extract (s : ByteArray) (a b : Nat) : bs (s.extract a b) = ((bs s).take b).drop a := by
  unfold bs Go.Proofs.YtdodaepdghlolaaW.PrintWords.bytesOf
  rw [ByteArray.data_extract, Array.toList_extract]
  simp only [List.extract_eq_take_drop, ← List.map_take, ← List.map_drop, List.drop_take]
theorem toList_eq_iff (s t : ByteArray) : s.toList = t.toList ↔ bs s = bs t := by
  constructor
  · intro h
    rw [ByteArray.toList_eq, ByteArray.toList_eq] at h
    have : s = t := by
      cases s; cases t
      simp only [ByteArray.mk.injEq]
      exact Array.toList_inj.mp h
    rw [this]
  · intro h
    rw [bs_inj h]
theorem toList_beq (s t : ByteArray) : (s.toList == t.toList) = decide (bs s = bs t) := by
  rw [Bool.eq_iff_iff, beq_iff_eq, decide_eq_true_eq, toList_eq_iff]
theorem bt_bs (s : ByteArray) (i : Nat) (h : i < s.size) : bt s (i : Int) = (bs s)[i]'(by rw [bs_length]; exact h) := by
  unfold bt
  rw [Int.toNat_natCast, dif_pos h]
  simp [bs, Go.Proofs.YtdodaepdghlolaaW.PrintWords.bytesOf]
  rfl
end Go.Proofs.Ytdodaepdghlolaa.Pure
