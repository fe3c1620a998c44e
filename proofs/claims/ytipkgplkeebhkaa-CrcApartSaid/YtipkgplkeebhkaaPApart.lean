/-
  Two texts that are unlike in four bytes in a row at most: their checks are the same just if they are.
-/
import Derived.Test.YtipkgplkeebhkaaPCrc
import Derived.Test.YtipkgplkeebhkaaPEv
import Derived.Test.YtipkgplkeebhkaaPStr
namespace Go.Proofs.Ytipkgplkeebhkaa.Pure.Apart
open Go.RowKit Go.Proofs.Ytipkgplkeebhkaa.M Go.Proofs.YtipkgplkeebhkaaW.PrintWords Go.Proofs.YtipkgplkeebhkaaW.PrintLast Go.Proofs.YtipkgplkeebhkaaW.PrintMore
theorem known_ev : Ev (fun k => contralaw03_known.f k) true := Crc.known_ev
theorem bits_off {l o : List Int} {a : Nat} {f : List Int} (hf : f.length = 4) (ho : o = l.take a ++ f ++ l.drop (a + 4)) (ha : a + 4 ≤ l.length) (p : Nat) (hp : p < 8 * a ∨ 8 * a + 32 ≤ p) : (Crc.allBits l)[p]? = (Crc.allBits o)[p]? := by
  have hl : l = l.take a ++ (l.drop a).take 4 ++ l.drop (a + 4) := by
    rw [← List.drop_drop, List.append_assoc, List.take_append_drop, List.take_append_drop]
  have e1 : (Crc.allBits (l.take a)).length = 8 * a := by rw [Crc.allBits_length, List.length_take]; omega
  have e2 : (Crc.allBits ((l.drop a).take 4)).length = 32 := by rw [Crc.allBits_length, List.length_take, List.length_drop]; omega
  have e3 : (Crc.allBits f).length = 32 := by rw [Crc.allBits_length, hf]
  rw [ho]
  conv => lhs; rw [hl]
  rw [Crc.allBits_append, Crc.allBits_append, Crc.allBits_append, Crc.allBits_append]
  rcases hp with hp | hp
  · rw [List.getElem?_append_left (by rw [List.length_append]; omega), List.getElem?_append_left (by omega), List.getElem?_append_left (by rw [List.length_append]; omega), List.getElem?_append_left (by omega)]
  · rw [List.getElem?_append_right (by rw [List.length_append]; omega), List.getElem?_append_right (by rw [List.length_append]; omega), List.length_append, List.length_append, e1, e2, e3]
theorem same_checks {l o : List Int} (hb : ∀ x ∈ l, Crc.Byte x) (hb' : ∀ x ∈ o, Crc.Byte x) (hs : l.length ≤ 500) {a : Nat} {f0 f1 f2 f3 : Int} (ho : o = l.take a ++ [f0, f1, f2, f3] ++ l.drop (a + 4)) (ha : a + 4 ≤ l.length) :
    ∃ (q : Bool) (r s : Int), Ev (fun k => crc_Of.f k o) r ∧ Ev (fun k => crc_Of.f k l) s ∧ (r == s) = q ∧ ((strOfNums o).toList == (strOfNums l).toList) = q := by
  have hol : o.length = l.length := by rw [ho]; simp only [List.length_append, List.length_take, List.length_drop, List.length_cons, List.length_nil]; omega
  refine ⟨(strOfNums o).toList == (strOfNums l).toList, _, _, Crc.of_ev o hb' (by omega), Crc.of_ev l hb (by omega), ?_, rfl⟩
  by_cases h : o = l
  · rw [h, beq_self_eq_true, beq_self_eq_true]
  · have h1 : ¬ (strOfNums o).toList = (strOfNums l).toList := fun e => h (by have := (toList_eq_iff _ _).mp e; rwa [bs_str o hb', bs_str l hb] at this)
    have h2 : ¬ (((Crc.crc 0#32 o).toNat : Int) = ((Crc.crc 0#32 l).toNat : Int)) := fun e => by
      have e' : Crc.crc 0#32 l = Crc.crc 0#32 o := BitVec.eq_of_toNat_eq (by omega)
      have := Crc.near_eq hb hb' hol.symm (8 * a) (bits_off rfl ho ha) e'
      exact h (Crc.allBits_inj hb' hb hol this.symm)
    rw [beq_eq_false_iff_ne.mpr h1, beq_eq_false_iff_ne.mpr h2]
end Go.Proofs.Ytipkgplkeebhkaa.Pure.Apart
