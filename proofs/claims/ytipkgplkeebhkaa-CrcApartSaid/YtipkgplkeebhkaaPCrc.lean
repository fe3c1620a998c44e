/-
  crc.Of, (crc.Sum).Add: what they compute is the plain check.
-/
import Derived.Test.YtipkgplkeebhkaaMx1
import Derived.Test.YtipkgplkeebhkaaTCrc
namespace Go.Proofs.Ytipkgplkeebhkaa.Pure
open Go.RowKit Go.Proofs.Ytipkgplkeebhkaa.M Go.Proofs.YtipkgplkeebhkaaW.PrintWords Go.Proofs.YtipkgplkeebhkaaW.PrintLast Go.Proofs.YtipkgplkeebhkaaW.PrintMore
namespace Crc
theorem bits_xor (a b : W) : Go.bits .xor .u32 (a.toNat : Int) (b.toNat : Int) = ((a ^^^ b).toNat : Int) := by
  have := (a ^^^ b).isLt
  have e : Go.bits .xor .u32 (a.toNat : Int) (b.toNat : Int) = IntKind.u32.wrap (((BitVec.ofInt 32 (a.toNat : Int) ^^^ BitVec.ofInt 32 (b.toNat : Int)).toNat : Nat) : Int) := rfl
  rw [e, BitVec.ofInt_natCast, BitVec.ofInt_natCast, BitVec.ofNat_toNat, BitVec.ofNat_toNat, BitVec.setWidth_eq, BitVec.setWidth_eq, IntKind.wrap_u32]
  omega
theorem bits_and1 (a : W) : (Go.bits .and .u32 (a.toNat : Int) 1 = 1) ↔ a.getLsbD 0 = true := by
  have e : (1 : Int) = (((1#32 : W).toNat : Nat) : Int) := rfl
  have h : Go.bits .and .u32 (a.toNat : Int) 1 = ((a &&& 1#32).toNat : Int) := by
    have := (a &&& 1#32).isLt
    have e2 : Go.bits .and .u32 (a.toNat : Int) (((1#32 : W).toNat : Nat) : Int) = IntKind.u32.wrap (((BitVec.ofInt 32 (a.toNat : Int) &&& BitVec.ofInt 32 (((1#32 : W).toNat : Nat) : Int)).toNat : Nat) : Int) := rfl
    rw [e, e2, BitVec.ofInt_natCast, BitVec.ofInt_natCast, BitVec.ofNat_toNat, BitVec.ofNat_toNat, BitVec.setWidth_eq, BitVec.setWidth_eq, IntKind.wrap_u32]
    omega
  rw [h, BitVec.toNat_and]
  show ((a.toNat &&& 1 : Nat) : Int) = 1 ↔ _
  rw [Nat.and_one_is_mod, BitVec.getLsbD, Nat.testBit_zero]
  simp
  omega
theorem half (a : W) : ((a.toNat : Nat) : Int) / (2 : Int) = (((a >>> 1).toNat : Nat) : Int) := by
  rw [BitVec.toNat_ushiftRight, Nat.shiftRight_eq_div_pow]
  omega
theorem compl (a : W) : Go.bits .xor .u32 4294967295 (a.toNat : Int) = ((~~~ a).toNat : Int) := by
  have e : (4294967295 : Int) = (((BitVec.allOnes 32 : W).toNat : Nat) : Int) := rfl
  rw [e, bits_xor, BitVec.allOnes_xor]
theorem ofInt_nat (x : Int) (h : Byte x) : x % 4294967296 = ((BitVec.ofInt 32 x : W).toNat : Int) := by
  obtain ⟨m, rfl⟩ := Int.eq_ofNat_of_zero_le h.1
  rw [BitVec.ofInt_natCast, BitVec.toNat_ofNat]
  omega
theorem wr (i : Int) (h0 : 0 ≤ i) (h : i < 4611686018427387904) : wrap64 (i + 1) = i + 1 := by unfold wrap64; omega
theorem l1_ev (l : List Int) (m i : Int) (r : Int) (j : Nat) (hj : j ≤ 8) : ∀ (n : W), Ev (fun k => crc_Sum_Add.l0 k ((stps j n).toNat : Int) l m (wrap64 (i + 1))) r →
    Ev (fun k => crc_Sum_Add.l1 k (n.toNat : Int) l m i (8 - j)) r := by
  induction j with
  | zero =>
    intro n h
    refine Ev.step (f := fun k => crc_Sum_Add.l0 k (n.toNat : Int) l m (wrap64 (i + 1))) (fun k => ?_) h
    simp only [crc_Sum_Add.l1]
    rw [if_neg (by omega)]
  | succ j ih =>
    intro n h
    have ih' := ih (by omega) (stp n) h
    refine Ev.step (f := fun k => crc_Sum_Add.l1 k ((stp n).toNat : Int) l m i (8 - (j : Int))) (fun k => ?_) ih'
    simp only [crc_Sum_Add.l1]
    rw [if_pos (by omega), wr _ (by omega) (by omega)]
    have e : (8 - ((j + 1 : Nat) : Int) + 1) = 8 - (j : Int) := by omega
    rw [e]
    by_cases hb : n.getLsbD 0 = true
    · rw [if_pos ((bits_and1 n).mpr hb), half]
      have : (3988292384 : Int) = ((poly.toNat : Nat) : Int) := rfl
      rw [this, bits_xor]
      unfold stp
      rw [if_pos hb]
    · rw [if_neg (fun h => hb ((bits_and1 n).mp h)), half]
      unfold stp
      rw [if_neg hb]
theorem l0_ev (l : List Int) (hb : ∀ x ∈ l, Byte x) (hl : l.length ≤ 1099511627776) (d : Nat) : ∀ (i : Nat) (n : W), i + d = l.length →
    Ev (fun k => crc_Sum_Add.l0 k (n.toNat : Int) l (l.length : Int) (i : Int)) ((~~~ (run n (l.drop i))).toNat : Int) := by
  induction d with
  | zero =>
    intro i n hi
    have hd : l.drop i = [] := List.drop_eq_nil_of_le (by omega)
    refine Ev.step (f := fun _ => some _) (fun k => ?_) (Ev.now _)
    simp only [crc_Sum_Add.l0]
    rw [if_neg (by omega), compl, hd]
    rfl
  | succ d ih =>
    intro i n hi
    have hlt : i < l.length := by omega
    have hx : Byte l[i] := hb _ (List.getElem_mem hlt)
    have h := ih (i + 1) (upd n l[i]) (by omega)
    have hd : l.drop i = l[i] :: l.drop (i + 1) := List.drop_eq_getElem_cons hlt
    rw [hd]
    show Ev _ ((~~~ (run (upd n l[i]) (l.drop (i + 1)))).toNat : Int)
    have e : wrap64 ((i : Int) + 1) = ((i + 1 : Nat) : Int) := by rw [wr _ (by omega) (by omega)]; omega
    have h2 := l1_ev l (l.length : Int) (i : Int) _ 8 (Nat.le_refl _) (n ^^^ BitVec.ofInt 32 l[i]) (by rw [e]; exact h)
    refine Ev.step (f := fun k => crc_Sum_Add.l1 k ((n ^^^ BitVec.ofInt 32 l[i]).toNat : Int) l (l.length : Int) (i : Int) (8 - (8 : Nat))) (fun k => ?_) h2
    simp only [crc_Sum_Add.l0]
    rw [if_pos (by omega), if_pos (by omega), if_pos (by omega)]
    have er : rd l (i : Int) = l[i] := by unfold rd; simp [List.getD, hlt]
    rw [er, ofInt_nat _ hx, bits_xor]
    rfl
theorem add_ev (l : List Int) (hb : ∀ x ∈ l, Byte x) (hl : l.length ≤ 1099511627776) (s : W) : Ev (fun k => crc_Sum_Add.f k (s.toNat : Int) l) ((crc s l).toNat : Int) := by
  have h := l0_ev l hb hl l.length 0 (~~~ s) (by omega)
  rw [List.drop_zero] at h
  refine Ev.congr (fun k => ?_) h
  unfold crc_Sum_Add.f
  rw [compl]
  rfl
theorem of_ev (l : List Int) (hb : ∀ x ∈ l, Byte x) (hl : l.length ≤ 1099511627776) : Ev (fun k => crc_Of.f k l) ((crc 0#32 l).toNat : Int) := by
  have h := add_ev l hb hl 0#32
  unfold crc_Of.f
  refine Ev.bind (a := ((crc 0#32 l).toNat : Int)) h ?_
  simp only [crc_Sum_Value.f, Option.bind_some]
  exact Ev.now _
theorem known_ev : Ev (fun k => contralaw03_known.f k) true := by
  unfold contralaw03_known.f
  have h := of_ev [49, 50, 51, 52, 53, 54, 55, 56, 57] (by simp [Byte]) (by simp)
  have e : ((crc 0#32 [49, 50, 51, 52, 53, 54, 55, 56, 57]).toNat : Int) = 3421780262 := by decide +kernel
  rw [e] at h
  refine Ev.bind h ?_
  simp only [if_true]
  have h2 := of_ev [] (by simp) (by simp)
  have e2 : ((crc 0#32 []).toNat : Int) = 0 := by decide +kernel
  rw [e2] at h2
  exact Ev.bind h2 (Ev.now _)
theorem wf_byte {x : Int} (h : (Lit.int .u8 x).wf = true) : Byte x := by
  simp [Lit.wf, IntKind.min, IntKind.max, IntKind.signed, IntKind.bits] at h
  exact ⟨h.1, by omega⟩
end Crc
end Go.Proofs.Ytipkgplkeebhkaa.Pure
