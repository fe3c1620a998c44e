/-
  The same records: the statement's own comparison.
-/
import Derived.Test.YthpdmjpimeibnaaMx5
import Derived.Test.YthpdmjpimeibnaaPFrame6
namespace Go.Proofs.Ythpdmjpimeibnaa.Pure
open Go.RowKit Go.Proofs.Ythpdmjpimeibnaa.M Go.Proofs.YthpdmjpimeibnaaW.PrintWords Go.Proofs.YthpdmjpimeibnaaW.PrintLast Go.Proofs.YthpdmjpimeibnaaW.PrintMore
theorem rdL1 {ds : List (List Int)} {i : Nat} (h : i < ds.length) : rd_L1 ds (i : Int) = ds[i] := by
  unfold rd_L1
  rw [Int.toNat_natCast, List.getD_eq_getElem?_getD, List.getElem?_eq_getElem h]
  rfl
theorem same_l0 (ds : List (List Int)) (hl : ds.length ≤ 1000000) : ∀ d i, i + d = ds.length → Ev (fun k => contralaw07_same.l0 k ds (ds.map strOfNums) (ds.length : Int) (i : Int)) true := by
  intro d
  induction d with
  | zero =>
    intro i hi
    refine Ev.up ?_
    simp only [contralaw07_same.l0]
    exact Ev.neg (by omega) (Ev.now _)
  | succ d ih =>
    intro i hi
    refine Ev.up ?_
    simp only [contralaw07_same.l0]
    refine Ev.pos (by omega) (Ev.pos (by omega) (Ev.pos (by omega) (Ev.pos (by rw [List.length_map]; omega) (Ev.pos ?_ ?_))))
    · rw [rdL1 (by omega)]
      have : rdOf ByteArray.empty (ds.map strOfNums) (i : Int) = strOfNums ds[i] := by
        unfold rdOf
        rw [Int.toNat_natCast, List.getD_eq_getElem?_getD, List.getElem?_map, List.getElem?_eq_getElem (by omega)]
        rfl
      rw [this]
    · rw [show wrap64 ((i : Int) + 1) = ((i + 1 : Nat) : Int) by unfold wrap64; omega]
      exact ih (i + 1) (by omega)
theorem same_ev (ds : List (List Int)) (hl : ds.length ≤ 1000000) : Ev (fun k => contralaw07_same.f k ds (ds.map strOfNums)) true := by
  unfold contralaw07_same.f
  exact Ev.pos (by rw [List.length_map]) (same_l0 ds hl ds.length 0 (by omega))
end Go.Proofs.Ythpdmjpimeibnaa.Pure
