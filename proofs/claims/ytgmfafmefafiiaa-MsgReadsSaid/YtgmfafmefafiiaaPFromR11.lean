/-
  The document's From, plainly: behind an error nothing is read; a kind out of bounds is an error.
-/
import Derived.Test.YtgmfafmefafiiaaPReads11
namespace Go.Proofs.Ytgmfafmefafiiaa.Pure.Msg
open Go.RowKit Go.Proofs.Ytgmfafmefafiiaa.M Go.Proofs.YtgmfafmefafiiaaW.PrintWords Go.Proofs.YtgmfafmefafiiaaW.PrintLast Go.Proofs.YtgmfafmefafiiaaW.PrintMore Go.Proofs.Ytgmfafmefafiiaa.Pure.Code
/-- the i-th of the seven numbers: what is read, and the state behind it -/
def hs (l : List Int) (i : Nat) (s : Nat × Int) : Int × Nat × Int :=
  if i = 0 ∧ (rI l 0 1073741824 s).2.2 = 0 ∧ ((rI l 0 1073741824 s).1 < 1 ∨ (rI l 0 1073741824 s).1 > 16) then ((rI l 0 1073741824 s).1, (rI l 0 1073741824 s).2.1, 110) else rI l 0 1073741824 s
def hd (l : List Int) : Nat → Nat × Int → List Int × Nat × Int
  | 0, s => ([], s)
  | i + 1, s => ((hd l i s).1 ++ [(hs l i (hd l i s).2).1], (hs l i (hd l i s).2).2)
theorem hd_len (l : List Int) (s : Nat × Int) : ∀ i, (hd l i s).1.length = i := by
  intro i
  induction i with
  | zero => rfl
  | succ i ih => simp [hd, ih]
theorem rN_stuck {l : List Int} {s : Nat × Int} (h : s.2 ≠ 0) : rN l s = (0, s) := by unfold rN; rw [if_neg h]
theorem rI_stuck {l : List Int} {s : Nat × Int} (lo hi : Int) (h : s.2 ≠ 0) : rI l lo hi s = (0, s) := by unfold rI; rw [if_neg h]
theorem rB_stuck {l : List Int} {s : Nat × Int} (h : s.2 ≠ 0) : rB l s = (false, s) := by unfold rB; rw [if_neg h]
theorem hs_pos {l : List Int} {i : Nat} (s : Nat × Int) (h : i ≠ 0) : hs l i s = rI l 0 1073741824 s := by unfold hs; rw [if_neg (fun q => h q.1)]
theorem ref_from {l : List Int} {s : Nat × Int} {xs nc : List Int} {am ln nn : Int} {ye : Bool} {ac : List S50} {s7 s8 s9 s10 s11 s12 s13 : Nat × Int}
    (h7 : hd l 7 s = (xs, s7)) (h8 : rN l s7 = (am, s8)) (h9 : rB l s8 = (ye, s9)) (h10 : rI l 0 1024 s9 = (ln, s10)) (h11 : linesF l ln.toNat s10 = (ac, s11))
    (h12 : rI l 0 8 s11 = (nn, s12)) (h13 : netsF l nn.toNat s12 = (nc, s13)) :
    ∃ x0 x1 x2 x3 x4 x5 x6, xs = [x0, x1, x2, x3, x4, x5, x6] ∧ (s13.2 = 0 → fromF l s = (⟨x0, ⟨x1, x2⟩, x3, x4, x5, x6, am, ye, ac, nc⟩, 0, s13)) ∧
      (s13.2 ≠ 0 → (fromF l s).1 = z28 ∧ (fromF l s).2.1 = s13.2) := by
  have e1 : (hd l 1 s).2 = (hs l 0 s).2 := rfl
  have step : ∀ i, 0 < i → (hd l (i + 1) s).2 = (rI l 0 1073741824 (hd l i s).2).2 := fun i hi => by
    show (hs l i (hd l i s).2).2 = _
    rw [hs_pos _ (by omega)]
  have hx : (hd l 7 s).1 = [(hs l 0 s).1, (rI l 0 1073741824 (hd l 1 s).2).1, (rI l 0 1073741824 (hd l 2 s).2).1, (rI l 0 1073741824 (hd l 3 s).2).1, (rI l 0 1073741824 (hd l 4 s).2).1, (rI l 0 1073741824 (hd l 5 s).2).1, (rI l 0 1073741824 (hd l 6 s).2).1] := by
    show ((((((([] ++ [(hs l 0 s).1]) ++ [(hs l 1 (hd l 1 s).2).1]) ++ [(hs l 2 (hd l 2 s).2).1]) ++ [(hs l 3 (hd l 3 s).2).1]) ++ [(hs l 4 (hd l 4 s).2).1]) ++ [(hs l 5 (hd l 5 s).2).1]) ++ [(hs l 6 (hd l 6 s).2).1]) = _
    rw [hs_pos (i := 1) _ (by decide), hs_pos (i := 2) _ (by decide), hs_pos (i := 3) _ (by decide), hs_pos (i := 4) _ (by decide), hs_pos (i := 5) _ (by decide), hs_pos (i := 6) _ (by decide)]
    rfl
  have hs7 : (hd l 7 s).2 = s7 := by rw [h7]
  have hxs : (hd l 7 s).1 = xs := by rw [h7]
  refine ⟨_, _, _, _, _, _, _, hxs.symm.trans hx, ?_⟩
  by_cases hb : (rI l 0 1073741824 s).2.2 = 0 ∧ ((rI l 0 1073741824 s).1 < 1 ∨ (rI l 0 1073741824 s).1 > 16)
  · have e0 : hs l 0 s = ((rI l 0 1073741824 s).1, (rI l 0 1073741824 s).2.1, 110) := by unfold hs; rw [if_pos ⟨rfl, hb⟩]
    have hf : fromF l s = (z28, 110, (rI l 0 1073741824 s).2) := by unfold fromF; rw [if_pos hb]
    have st : ∀ i, 0 < i → (hd l i s).2 = ((rI l 0 1073741824 s).2.1, 110) := by
      intro i hi
      induction i with
      | zero => omega
      | succ i ih =>
        by_cases h0 : i = 0
        · subst h0; rw [e1, e0]
        · rw [step i (by omega), ih (by omega), rI_stuck _ _ (by simp)]
    have s7e : s7 = ((rI l 0 1073741824 s).2.1, 110) := hs7.symm.trans (st 7 (by decide))
    rw [s7e, rN_stuck (by simp)] at h8
    injection h8 with _ h8
    rw [← h8, rB_stuck (by simp)] at h9
    injection h9 with _ h9
    rw [← h9, rI_stuck _ _ (by simp)] at h10
    injection h10 with h10a h10
    rw [← h10a, ← h10] at h11
    have e11 : s11 = ((rI l 0 1073741824 s).2.1, 110) := by
      have := congrArg Prod.snd h11
      exact this.symm
    rw [e11, rI_stuck _ _ (by simp)] at h12
    injection h12 with h12a h12
    rw [← h12a, ← h12] at h13
    have e13 : s13 = ((rI l 0 1073741824 s).2.1, 110) := (congrArg Prod.snd h13).symm
    rw [hf, e13]
    exact ⟨fun h => absurd h (by simp), fun _ => ⟨rfl, rfl⟩⟩
  · have e0 : hs l 0 s = rI l 0 1073741824 s := by unfold hs; rw [if_neg (fun q => hb q.2)]
    have q1 : (hd l 1 s).2 = (rI l 0 1073741824 s).2 := by rw [e1, e0]
    have q2 := step 1 (by decide)
    have q3 := step 2 (by decide)
    have q4 := step 3 (by decide)
    have q5 := step 4 (by decide)
    have q6 := step 5 (by decide)
    have q7 := step 6 (by decide)
    rw [q1] at q2
    rw [q2] at q3
    rw [q3] at q4
    rw [q4] at q5
    rw [q5] at q6
    rw [q6] at q7
    rw [hs7] at q7
    rw [q1, q2, q3, q4, q5, q6, e0]
    have hf : fromF l s = (if s13.2 = 0 then (⟨(rI l 0 1073741824 s).1, ⟨(rI l 0 1073741824 (rI l 0 1073741824 s).2).1, (rI l 0 1073741824 (rI l 0 1073741824 (rI l 0 1073741824 s).2).2).1⟩, (rI l 0 1073741824 (rI l 0 1073741824 (rI l 0 1073741824 (rI l 0 1073741824 s).2).2).2).1, (rI l 0 1073741824 (rI l 0 1073741824 (rI l 0 1073741824 (rI l 0 1073741824 (rI l 0 1073741824 s).2).2).2).2).1, (rI l 0 1073741824 (rI l 0 1073741824 (rI l 0 1073741824 (rI l 0 1073741824 (rI l 0 1073741824 (rI l 0 1073741824 s).2).2).2).2).2).1, (rI l 0 1073741824 (rI l 0 1073741824 (rI l 0 1073741824 (rI l 0 1073741824 (rI l 0 1073741824 (rI l 0 1073741824 (rI l 0 1073741824 s).2).2).2).2).2).2).1, am, ye, ac, nc⟩, 0, s13) else (z28, s13.2, s13)) := by
      unfold fromF
      rw [if_neg hb]
      simp only
      rw [← q7, h8]
      simp only
      rw [h9]
      simp only
      rw [h10]
      simp only
      rw [h11]
      simp only
      rw [h12]
      simp only
      rw [h13]
    rw [hf]
    constructor
    · intro h; rw [if_pos h]
    · intro h; rw [if_neg h]; exact ⟨rfl, rfl⟩
end Go.Proofs.Ytgmfafmefafiiaa.Pure.Msg
