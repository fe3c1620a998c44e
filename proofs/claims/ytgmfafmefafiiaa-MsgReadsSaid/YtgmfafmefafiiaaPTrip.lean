/-
  What is written is read as it was.
-/
import Derived.Test.YtgmfafmefafiiaaPFrom
namespace Go.Proofs.Ytgmfafmefafiiaa.Pure.Msg
open Go.RowKit Go.Proofs.Ytgmfafmefafiiaa.M Go.Proofs.YtgmfafmefafiiaaW.PrintWords Go.Proofs.YtgmfafmefafiiaaW.PrintLast Go.Proofs.YtgmfafmefafiiaaW.PrintMore Go.Proofs.Ytgmfafmefafiiaa.Pure.Code
set_option linter.unusedVariables false
theorem drop_next {l a s : List Int} {p : Nat} (h : l.drop p = a ++ s) : l.drop (p + a.length) = s := by
  rw [← List.drop_drop, h, List.drop_left]
theorem rN_at {l s : List Int} {p : Nat} {n : Int} (hn : I64 n) (h : l.drop p = enc n ++ s) : rN l (p, 0) = (n, p + (enc n).length, 0) := by
  unfold rN
  rw [if_pos rfl]
  exact rdNum_enc hn l s p h
theorem rI_at {l s : List Int} {p : Nat} {n hi : Int} (hn : I64 n) (hr : 0 ≤ n ∧ n ≤ hi) (h : l.drop p = enc n ++ s) : rI l 0 hi (p, 0) = (n, p + (enc n).length, 0) := by
  have := rdNum_enc hn l s p h
  unfold rI rdInt
  rw [if_pos rfl, this, if_pos rfl, if_pos (show inRange n 0 hi from hr)]
theorem rB_at {l s : List Int} {p : Nat} {b : Bool} (h : l.drop p = [b01 b] ++ s) : rB l (p, 0) = (b, p + 1, 0) := by
  have hlt : p < l.length := by
    apply Nat.lt_of_not_le
    intro q
    rw [List.drop_eq_nil_of_le q] at h
    simp at h
  have hx : rd l (p : Int) = b01 b := by
    have h2 := List.drop_eq_getElem_cons hlt
    rw [h] at h2
    simp only [List.singleton_append, List.cons.injEq] at h2
    simp [rd, hlt, h2.1]
  unfold rB
  rw [if_pos rfl, if_neg (Nat.ne_of_lt hlt), hx]
  cases b <;> simp [b01]
theorem small_I64 {n : Int} (h : small n) : I64 n := ⟨by have := h.1; omega, by have := h.2; omega⟩
theorem lines_at {l : List Int} : ∀ (ls : List S50) (s : List Int) (p : Nat), (∀ x ∈ ls, smallL x ∧ I64 x.f2) → l.drop p = linesE ls ++ s → linesF l ls.length (p, 0) = (ls, p + (linesE ls).length, 0) := by
  intro ls
  induction ls with
  | nil => intro s p _ _; simp [linesF, linesE]
  | cons x ls ih =>
    intro s p hx hd
    obtain ⟨⟨h1, h2, h3⟩, h4⟩ := hx x (by simp)
    have e : linesE (x :: ls) = enc x.f0.f0 ++ (enc x.f0.f1 ++ (enc x.f1 ++ (enc x.f2 ++ linesE ls))) := by
      have : linesE (x :: ls) = lineE x ++ linesE ls := rfl
      rw [this]
      simp [lineE, lineL, menc, List.append_assoc]
    rw [e] at hd ⊢
    simp only [List.append_assoc] at hd
    have d1 := drop_next hd
    have d2 := drop_next d1
    have d3 := drop_next d2
    have d4 := drop_next d3
    have r1 := rI_at (small_I64 h1) h1 hd
    have r2 := rI_at (small_I64 h2) h2 d1
    have r3 := rI_at (small_I64 h3) h3 d2
    have r4 := rN_at h4 d3
    have r5 := ih s _ (fun y hy => hx y (by simp [hy])) d4
    simp only [List.length_cons, linesF, if_true, r1, r2, r3, r4, r5, List.length_append]
    simp only [Prod.mk.injEq, and_true, true_and]
    omega
theorem nets_at {l : List Int} : ∀ (ns : List Int) (s : List Int) (p : Nat), (∀ x ∈ ns, I64 x) → l.drop p = menc ns ++ s → netsF l ns.length (p, 0) = (ns, p + (menc ns).length, 0) := by
  intro ns
  induction ns with
  | nil => intro s p _ _; simp [netsF, menc]
  | cons x ns ih =>
    intro s p hx hd
    have e : menc (x :: ns) = enc x ++ menc ns := rfl
    rw [e] at hd ⊢
    rw [List.append_assoc] at hd
    have r1 := rN_at (hx x (by simp)) hd
    have r2 := ih s _ (fun y hy => hx y (by simp [hy])) (drop_next hd)
    simp only [List.length_cons, netsF, if_true, r1, r2, List.length_append, Nat.add_assoc]
theorem code0 {m : S28} (h : wcode m = 0) : (1 ≤ m.f0 ∧ m.f0 ≤ 16) ∧ (m.f8.length ≤ 1024 ∧ m.f9.length ≤ 8) ∧ (∀ x ∈ head m, small x) ∧ ∀ x ∈ m.f8, smallL x := by
  unfold wcode at h
  by_cases h1 : m.f0 < 1 ∨ m.f0 > 16
  · rw [if_pos h1] at h; simp at h
  rw [if_neg h1] at h
  by_cases h2 : m.f8.length > 1024 ∨ m.f9.length > 8
  · rw [if_pos h2] at h; simp at h
  rw [if_neg h2] at h
  by_cases h3 : (∀ x ∈ head m, small x) ∧ ∀ x ∈ m.f8, smallL x
  · exact ⟨by omega, by omega, h3⟩
  · rw [if_neg h3] at h; simp at h
/-- a message that was written is read as it was, whatever is ahead of it and behind it -/
theorem from_body {l s : List Int} {p : Nat} {m : S28} (hc : wcode m = 0) (hw : Wide m) (hd : l.drop p = body m ++ s) : fromF l (p, 0) = (m, 0, p + (body m).length, 0) := by
  obtain ⟨hk, hl, hh, hs⟩ := code0 hc
  have e : body m = enc m.f0 ++ (enc m.f1.f0 ++ (enc m.f1.f1 ++ (enc m.f2 ++ (enc m.f3 ++ (enc m.f4 ++ (enc m.f5 ++ (enc m.f6 ++ ([b01 m.f7] ++ (enc (m.f8.length : Int) ++ (linesE m.f8 ++ (enc (m.f9.length : Int) ++ menc m.f9))))))))))) := by
    simp [body, head, menc, List.append_assoc]
  rw [e] at hd ⊢
  simp only [List.append_assoc] at hd
  have d1 := drop_next hd
  have d2 := drop_next d1
  have d3 := drop_next d2
  have d4 := drop_next d3
  have d5 := drop_next d4
  have d6 := drop_next d5
  have d7 := drop_next d6
  have d8 := drop_next d7
  have d9 := drop_next d8
  have d10 := drop_next d9
  have d11 := drop_next d10
  have d12 := drop_next d11
  have H : ∀ x, x ∈ head m → I64 x ∧ 0 ≤ x ∧ x ≤ 1073741824 := fun x hx => ⟨small_I64 (hh x hx), hh x hx⟩
  have r1 := rI_at (H m.f0 (by simp [head])).1 (H m.f0 (by simp [head])).2 hd
  have r2 := rI_at (H m.f1.f0 (by simp [head])).1 (H m.f1.f0 (by simp [head])).2 d1
  have r3 := rI_at (H m.f1.f1 (by simp [head])).1 (H m.f1.f1 (by simp [head])).2 d2
  have r4 := rI_at (H m.f2 (by simp [head])).1 (H m.f2 (by simp [head])).2 d3
  have r5 := rI_at (H m.f3 (by simp [head])).1 (H m.f3 (by simp [head])).2 d4
  have r6 := rI_at (H m.f4 (by simp [head])).1 (H m.f4 (by simp [head])).2 d5
  have r7 := rI_at (H m.f5 (by simp [head])).1 (H m.f5 (by simp [head])).2 d6
  have r8 := rN_at hw.2.1 d7
  have r9 := rB_at d8
  rw [List.length_singleton] at d9 d10 d11 d12
  have r10 := rI_at (n := (m.f8.length : Int)) (hi := 1024) ⟨by omega, by omega⟩ ⟨by omega, by omega⟩ d9
  have r11 := lines_at m.f8 _ _ (fun x hx => ⟨hs x hx, hw.2.2.1 x hx _ (by simp [lineL])⟩) d10
  have r12 := rI_at (n := (m.f9.length : Int)) (hi := 8) ⟨by omega, by omega⟩ ⟨by omega, by omega⟩ d11
  have r13 := nets_at m.f9 _ _ hw.2.2.2 d12
  unfold fromF
  simp only [r1, r2, r3, r4, r5, r6, r7, r8, r9, r10, Int.toNat_natCast, r11, r12, r13]
  rw [if_neg (by omega), if_pos trivial]
  simp only [Prod.mk.injEq, and_true, List.length_append, List.length_singleton]
  exact ⟨trivial, trivial, by omega⟩
theorem rI_le {l : List Int} (lo hi : Int) {s : Nat × Int} (h : s.1 ≤ l.length) : (rI l lo hi s).2.1 ≤ l.length := by
  unfold rI
  split
  · exact rdInt_le lo hi h
  · exact h
theorem rN_le {l : List Int} {s : Nat × Int} (h : s.1 ≤ l.length) : (rN l s).2.1 ≤ l.length := by
  unfold rN
  split
  · exact rdNum_le h
  · exact h
theorem rB_le {l : List Int} {s : Nat × Int} (h : s.1 ≤ l.length) : (rB l s).2.1 ≤ l.length := by
  unfold rB
  split
  · split
    · exact h
    · simp only; omega
  · exact h
theorem linesF_le {l : List Int} : ∀ (n : Nat) (s : Nat × Int), s.1 ≤ l.length → (linesF l n s).2.1 ≤ l.length := by
  intro n
  induction n with
  | zero => intro s h; exact h
  | succ n ih =>
    intro s h
    unfold linesF
    split
    · exact ih _ (rN_le (rI_le _ _ (rI_le _ _ (rI_le _ _ h))))
    · exact h
theorem netsF_le {l : List Int} : ∀ (n : Nat) (s : Nat × Int), s.1 ≤ l.length → (netsF l n s).2.1 ≤ l.length := by
  intro n
  induction n with
  | zero => intro s h; exact h
  | succ n ih =>
    intro s h
    unfold netsF
    split
    · exact ih _ (rN_le h)
    · exact h
theorem fromF_le {l : List Int} {s : Nat × Int} (h : s.1 ≤ l.length) : (fromF l s).2.2.1 ≤ l.length := by
  have h1 := rI_le (l := l) 0 1073741824 h
  have s2 := rI_le (l := l) 0 1073741824 h1
  have s3 := rI_le (l := l) 0 1073741824 s2
  have s4 := rI_le (l := l) 0 1073741824 s3
  have s5 := rI_le (l := l) 0 1073741824 s4
  have s6 := rI_le (l := l) 0 1073741824 s5
  have s7 := rI_le (l := l) 0 1073741824 s6
  have s8 := rN_le (l := l) s7
  have s9 := rB_le (l := l) s8
  have s10 := rI_le (l := l) 0 1024 s9
  unfold fromF
  simp only
  split
  · exact h1
  · split
    · exact netsF_le _ _ (rI_le 0 8 (linesF_le _ _ s10))
    · exact netsF_le _ _ (rI_le 0 8 (linesF_le _ _ s10))
end Go.Proofs.Ytgmfafmefafiiaa.Pure.Msg
