/-
  Each act on an item, plainly; the program's and the document's come to it.
-/
import Derived.Test.YtbmnpjalekailaaMx5
import Derived.Test.YtbmnpjalekailaaPRankF
namespace Go.Proofs.Ytbmnpjalekailaa.Pure
open Go.RowKit Go.Proofs.Ytbmnpjalekailaa.M Go.Proofs.YtbmnpjalekailaaW.PrintWords Go.Proofs.YtbmnpjalekailaaW.PrintLast Go.Proofs.YtbmnpjalekailaaW.PrintMore
namespace Item
/-- an item behind an act, and the error's number -/
def acted (s n b c a r st cy kind m : Int) : Int × Int × Int × Int × Int × Int × Int × Int × Int :=
  if kind = 1 then (if st = 1 then (s, n, b, c, a, r, 2, cy, 0) else (s, n, b, c, a, r, st, cy, 90))
  else if kind = 2 then (if st = 1 then (s, n, b, c, a, r, 3, cy, 0) else (s, n, b, c, a, r, st, cy, 90))
  else if kind = 3 then (if st = 2 then (s, n, b, c, a, r, 4, cy, 0) else (s, n, b, c, a, r, st, cy, 90))
  else if kind = 4 then (if st = 2 then (if 1 ≤ m ∧ m ≤ 1125899906842624 then (if r = 3 then (s, n, b, c, a, r, st, cy, 91) else (s, n, b, c, m, wrap64 (r + 1), 1, cy, 0)) else (s, n, b, c, a, r, st, cy, 1)) else (s, n, b, c, a, r, st, cy, 90))
  else if kind = 5 then (if st = 3 ∧ cy = 0 then (if 1 ≤ m ∧ m ≤ 1048576 then (s, n, b, c, a, r, st, m, 0) else (s, n, b, c, a, r, st, cy, 1)) else (s, n, b, c, a, r, st, cy, 90))
  else if kind = 6 then (if st = 3 ∧ cy ≠ 0 then (s, n, b, c, a, r, st, 0, 0) else (s, n, b, c, a, r, st, cy, 90))
  else if kind = 7 then (if st = 3 ∧ cy ≠ 0 then (s, n, b, c, a, r, 5, cy, 0) else (s, n, b, c, a, r, st, cy, 90))
  else (s, n, b, c, a, r, st, cy, 0)
theorem act_ev (s n b c a r st cy kind m : Int) : Ev (fun k => contralaw09_act.f k s n b c a r st cy kind m) (acted s n b c a r st cy kind m) := by
  refine Ev.of (contralaw09_act.mono s n b c a r st cy kind m) (k := 4) ?_
  simp only [contralaw09_act.f, item_Dispute.f, item_Agree.f, item_Cancel.f, item_Adjust.f, item_Adjust.j0, item_Lock.f, item_Lock.j0, item_Free.f, item_Settle.f, item_locked.f, item_step.f, acted, decide_eq_true_eq, bne_iff_ne, if_true]
  grind (splits := 60)
theorem chk_fit (s n b c a r st cy : Int) : chk s n b c a r st cy = 0 ↔ (0 ≤ s ∧ s ≤ 7 ∧ 0 ≤ b ∧ b ≤ 7 ∧ b ≠ s ∧ 1 ≤ n ∧ n ≤ 1048576 ∧ 0 ≤ c ∧ c ≤ 7 ∧ 1 ≤ a ∧ a ≤ 1125899906842624 ∧ 0 ≤ r ∧ r ≤ 3 ∧ 1 ≤ st ∧ st ≤ 5 ∧ 0 ≤ cy ∧ cy ≤ 1048576) ∧ ¬ ((cy ≠ 0 ∧ st ≠ 3 ∧ st ≠ 5) ∨ (cy = 0 ∧ st = 5)) := by
  unfold chk
  by_cases h : 0 ≤ s ∧ s ≤ 7 ∧ 0 ≤ b ∧ b ≤ 7 ∧ b ≠ s ∧ 1 ≤ n ∧ n ≤ 1048576 ∧ 0 ≤ c ∧ c ≤ 7 ∧ 1 ≤ a ∧ a ≤ 1125899906842624 ∧ 0 ≤ r ∧ r ≤ 3 ∧ 1 ≤ st ∧ st ≤ 5 ∧ 0 ≤ cy ∧ cy ≤ 1048576
  · rw [if_pos h]
    by_cases h2 : (cy ≠ 0 ∧ st ≠ 3 ∧ st ≠ 5) ∨ (cy = 0 ∧ st = 5)
    · rw [if_pos h2]; exact ⟨fun e => by omega, fun e => absurd h2 e.2⟩
    · rw [if_neg h2]; exact ⟨fun _ => ⟨h, h2⟩, fun _ => rfl⟩
  · rw [if_neg h]; exact ⟨fun e => by omega, fun e => absurd e.1 h⟩
/-- what is known of an item that can be, behind an act -/
theorem acted_fit {s n b c a r st cy : Int} (kind m : Int) (h : chk s n b c a r st cy = 0) :
    let y := acted s n b c a r st cy kind m
    chk y.1 y.2.1 y.2.2.1 y.2.2.2.1 y.2.2.2.2.1 y.2.2.2.2.2.1 y.2.2.2.2.2.2.1 y.2.2.2.2.2.2.2.1 = 0 := by
  rw [chk_fit] at h
  have hr : wrap64 (r + 1) = r + 1 := w64 (by omega) (by omega)
  obtain ⟨g, g2⟩ := h
  have same : ∀ e : Int, (let y := (s, n, b, c, a, r, st, cy, e); chk y.1 y.2.1 y.2.2.1 y.2.2.2.1 y.2.2.2.2.1 y.2.2.2.2.2.1 y.2.2.2.2.2.2.1 y.2.2.2.2.2.2.2.1 = 0) := fun e => (chk_fit ..).mpr ⟨g, g2⟩
  unfold acted
  rw [hr]
  by_cases k1 : kind = 1
  · rw [if_pos k1]; by_cases q : st = 1
    · rw [if_pos q]; exact (chk_fit ..).mpr ⟨by dsimp only; omega, by dsimp only; omega⟩
    · rw [if_neg q]; exact same _
  rw [if_neg k1]
  by_cases k2 : kind = 2
  · rw [if_pos k2]; by_cases q : st = 1
    · rw [if_pos q]; exact (chk_fit ..).mpr ⟨by dsimp only; omega, by dsimp only; omega⟩
    · rw [if_neg q]; exact same _
  rw [if_neg k2]
  by_cases k3 : kind = 3
  · rw [if_pos k3]; by_cases q : st = 2
    · rw [if_pos q]; exact (chk_fit ..).mpr ⟨by dsimp only; omega, by dsimp only; omega⟩
    · rw [if_neg q]; exact same _
  rw [if_neg k3]
  by_cases k4 : kind = 4
  · rw [if_pos k4]; by_cases q : st = 2
    · rw [if_pos q]; by_cases q2 : 1 ≤ m ∧ m ≤ 1125899906842624
      · rw [if_pos q2]; by_cases q3 : r = 3
        · rw [if_pos q3]; exact same _
        · rw [if_neg q3]; exact (chk_fit ..).mpr ⟨by dsimp only; omega, by dsimp only; omega⟩
      · rw [if_neg q2]; exact same _
    · rw [if_neg q]; exact same _
  rw [if_neg k4]
  by_cases k5 : kind = 5
  · rw [if_pos k5]; by_cases q : st = 3 ∧ cy = 0
    · rw [if_pos q]; by_cases q2 : 1 ≤ m ∧ m ≤ 1048576
      · rw [if_pos q2]; exact (chk_fit ..).mpr ⟨by dsimp only; omega, by dsimp only; omega⟩
      · rw [if_neg q2]; exact same _
    · rw [if_neg q]; exact same _
  rw [if_neg k5]
  by_cases k6 : kind = 6
  · rw [if_pos k6]; by_cases q : st = 3 ∧ cy ≠ 0
    · rw [if_pos q]; exact (chk_fit ..).mpr ⟨by dsimp only; omega, by dsimp only; omega⟩
    · rw [if_neg q]; exact same _
  rw [if_neg k6]
  by_cases k7 : kind = 7
  · rw [if_pos k7]; by_cases q : st = 3 ∧ cy ≠ 0
    · rw [if_pos q]; exact (chk_fit ..).mpr ⟨by dsimp only; omega, by dsimp only; omega⟩
    · rw [if_neg q]; exact same _
  rw [if_neg k7]
  exact same _
end Item
end Go.Proofs.Ytbmnpjalekailaa.Pure
