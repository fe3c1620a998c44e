/-
  A vector of one entity and one currency: Add, Of; an amount's text is read as it was.
-/
import Derived.Test.YtbnnjpibdlfhpaaDoorPOne
import Derived.Test.YtbnnjpibdlfhpaaDoorPDg
namespace Go.Proofs.YtbnnjpibdlfhpaaDoor.M
open Go.RowKit Go.Proofs.YtbnnjpibdlfhpaaDoorW.PrintWords Go.Proofs.YtbnnjpibdlfhpaaDoorW.PrintLast Go.Proofs.YtbnnjpibdlfhpaaDoorW.PrintMore
set_option linter.unusedVariables false
set_option linter.unusedSimpArgs false
theorem kb0 {e cu am : Int} (h : KB ⟨e, cu, 0⟩) : KB ⟨e, cu, am⟩ := h
theorem add_one {A : Option Addr} {n c : Nat} {e cu s am : Int} {w : World} (hn : n = (one e cu s).length) (hC : Kd.C k39 w A (one e cu s).length (one e cu s)) (ht : KB ⟨e, cu, 0⟩) (hi1 : In64 s) (hi2 : In64 am) (hf : In64 (s + am)) :
    Calls Tryd.prog 4 #[.agg #[.slice A n c], .int .i64 e, .int .i64 cu, .int .i64 am] w fun x w' => ∃ A' n' c', x = .returned (.tuple #[.agg #[.slice A' n' c'], .int .i64 0]) ∧ n' = (one e cu (s + am)).length ∧ Kd.R k39 39 w' w.heap.size (fun _ => True) (.slice A' n' c') (one e cu (s + am)) ∧ Below w.heap.size w w' := by
  subst hn
  have h := vec_add (c := c) hC (one_ok ht) (am := am) (kb0 ht) (one_end e cu s am) (by rw [one_of]; exact hi1) hi2 (by rw [one_of]; exact hf)
  rw [one_add] at h
  refine h.mono ?_
  rintro x w' ⟨v, rfl, hO, hb⟩
  obtain ⟨A', c', rfl⟩ := Kd.R_slice hO
  exact ⟨A', _, c', rfl, rfl, hO, hb⟩
theorem add_one_err {A : Option Addr} {n c : Nat} {e cu s am : Int} {w : World} (hn : n = (one e cu s).length) (hC : Kd.C k39 w A (one e cu s).length (one e cu s)) (ht : KB ⟨e, cu, 0⟩) (hi1 : In64 s) (hi2 : In64 am) (hf : ¬ In64 (s + am)) :
    Calls Tryd.prog 4 #[.agg #[.slice A n c], .int .i64 e, .int .i64 cu, .int .i64 am] w fun x w' => x = .returned (.tuple #[.agg #[.slice A n c], .int .i64 10]) ∧ Below w.heap.size w w' := by
  subst hn
  exact vec_err (c := c) hC (one_ok ht) (am := am) (kb0 ht) (by rw [one_of]; exact hi1) hi2 (by rw [one_of]; exact hf)
theorem of_one {A : Option Addr} {n c : Nat} {e cu s : Int} {w : World} (hn : n = (one e cu s).length) (hC : Kd.C k39 w A (one e cu s).length (one e cu s)) (ht : KB ⟨e, cu, 0⟩) :
    Calls Tryd.prog 5 #[.agg #[.slice A n c], .int .i64 e, .int .i64 cu] w fun x w' => x = .returned (.int .i64 s) ∧ Below w.heap.size w w' := by
  subst hn
  have h := of_calls (c := c) hC (one_ok ht) ht
  rw [one_of] at h
  exact h
theorem parse_text {a : Int} (h : In64 a) (w : World) :
    Calls Tryd.prog 7 #[.string ⟨(txt a).toArray⟩] w fun e w' => e = .returned (.tuple #[.int .i64 a, .int .i64 0]) ∧ Below w.heap.size w w' := by
  unfold In64 at h
  have hu : a.natAbs < 18446744073709551616 := by omega
  unfold txt
  by_cases hn : a < 0
  · rw [if_pos hn]
    have := parse_neg (body (Lib.decDigits a.natAbs)) a.natAbs (body_dg _ hu) (by omega) (by omega) w
    rw [show -((a.natAbs : Nat) : Int) = a by omega] at this
    exact this
  · rw [if_neg hn]
    have := parse_pos (body (Lib.decDigits a.natAbs)) a.natAbs (body_dg _ hu) (by omega) w
    rw [show ((a.natAbs : Nat) : Int) = a by omega] at this
    exact this
theorem tab_below {w w' : World} (h : Lib.TabIs Tryd.prog w "internal/strconv.uint64pow10" .u64 Lib.pow10Tab) (hb : Below w.heap.size w w') : Lib.TabIs Tryd.prog w' "internal/strconv.uint64pow10" .u64 Lib.pow10Tab := by
  have hgn : Tryd.prog.globalNamed "internal/strconv.uint64pow10" = some 0 := by kernel_rfl
  unfold Lib.TabIs World.var? at h ⊢
  rw [hgn] at h ⊢
  simp only [Option.bind_some] at h ⊢
  have hlt : 0 < w.heap.size := by
    rcases Nat.lt_or_ge 0 w.heap.size with h' | h'
    · exact h'
    · rw [Array.getElem?_eq_none h'] at h; cases h
  rw [hb.block 0 hlt]
  exact h
end Go.Proofs.YtbnnjpibdlfhpaaDoor.M
