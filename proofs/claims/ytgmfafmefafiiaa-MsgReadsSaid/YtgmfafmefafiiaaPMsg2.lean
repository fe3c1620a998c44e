/-
  A message's bytes, further: how many there are, that they are bytes, and what is read if one is missing or one is more.
-/
import Derived.Test.YtgmfafmefafiiaaPReads11
import Derived.Test.YtgmfafmefafiiaaPSays
namespace Go.Proofs.Ytgmfafmefafiiaa.Pure.Msg
open Go.RowKit Go.Proofs.Ytgmfafmefafiiaa.M Go.Proofs.YtgmfafmefafiiaaW.PrintWords Go.Proofs.YtgmfafmefafiiaaW.PrintLast Go.Proofs.YtgmfafmefafiiaaW.PrintMore Go.Proofs.Ytgmfafmefafiiaa.Pure.Code
set_option linter.unusedVariables false
theorem body_fits {m : S28} (hc : wcode m = 0) (hw : Wide m) : (body m).length ≤ 41500 := by
  have h := code0 hc
  have h1 := menc_len (head m) hw.1
  have h2 := enc_len hw.2.1
  have h3 := linesE_len m.f8 hw.2.2.1
  have h4 := menc_len m.f9 hw.2.2.2
  have h5 : (head m).length = 7 := rfl
  have h6 : (enc (m.f8.length : Int)).length ≤ 10 := enc_len (by have := h.2.1; unfold I64; omega)
  have h7 : (enc (m.f9.length : Int)).length ≤ 10 := enc_len (by have := h.2.1; unfold I64; omega)
  have := h.2.1
  unfold body
  simp only [List.length_append, List.length_cons, List.length_nil]
  omega
theorem menc_bytes (l : List Int) : Bytes (menc l) := fun x hx => by
  obtain ⟨y, _, h⟩ := List.mem_flatMap.mp hx
  exact enc_bytes y x h
theorem linesE_bytes (l : List S50) : Bytes (linesE l) := fun x hx => by
  obtain ⟨y, _, h⟩ := List.mem_flatMap.mp hx
  exact menc_bytes _ x h
theorem bytes_app {a b : List Int} (ha : Bytes a) (hb : Bytes b) : Bytes (a ++ b) := fun x hx => (List.mem_append.mp hx).elim (ha x) (hb x)
theorem body_bytes (m : S28) : Bytes (body m) :=
  bytes_app (bytes_app (bytes_app (bytes_app (bytes_app (bytes_app (menc_bytes _) (enc_bytes _)) (fun x hx => by simp [b01] at hx; split at hx <;> omega)) (enc_bytes _)) (linesE_bytes _)) (enc_bytes _)) (menc_bytes _)
theorem body_pos (m : S28) : 0 < (body m).length := by
  have := enc_pos m.f6
  unfold body
  simp only [List.length_append]
  omega
theorem read_more {m : S28} (hc : wcode m = 0) (hw : Wide m) (x : Int) : readF (body m ++ [x]) = (z28, 41) := by
  have h := from_body (l := body m ++ [x]) (s := [x]) (p := 0) hc hw (by simp)
  unfold readF
  rw [h]
  simp
/-- the state of a reader of all bytes but the last, beside that of one of all: the same, or it wanted the last one -/
def Rel (l : List Int) (s' s : Nat × Int) : Prop := (s = s' ∧ s'.2 = 0 ∧ s'.1 ≤ l.length) ∨ (s.2 = 40 ∧ s' = (l.length + 1, 0))
theorem scan_short : ∀ (s : List Int) (b : Int) (i u : Nat), (scan (s ++ [b]) i u).2.1 = 0 →
    ((scan (s ++ [b]) i u).1 ≤ s.length ∧ scan s i u = scan (s ++ [b]) i u) ∨ ((scan (s ++ [b]) i u).1 = s.length + 1 ∧ (scan s i u).2.1 = 40) := by
  intro s
  induction s with
  | nil =>
    intro b i u h
    refine .inr ⟨?_, rfl⟩
    simp only [List.nil_append] at h ⊢
    unfold scan at h ⊢
    split
    · rename_i h1; rw [if_pos h1] at h; exact absurd h (by decide)
    · rename_i h1; rw [if_neg h1] at h
      split
      · rfl
      · rename_i h2; rw [if_neg h2] at h; exact absurd h (by simp [scan])
  | cons x s ih =>
    intro b i u h
    rw [List.cons_append] at h ⊢
    unfold scan at h ⊢
    split
    · rename_i h1; rw [if_pos h1] at h; exact absurd h (by decide)
    · rename_i h1; rw [if_neg h1] at h
      split
      · exact .inl ⟨by simp, rfl⟩
      · rename_i h2; rw [if_neg h2] at h
        rcases ih b _ _ h with ⟨h3, h4⟩ | ⟨h3, h4⟩
        · exact .inl ⟨by simp only [List.length_cons]; omega, by rw [h4]⟩
        · exact .inr ⟨by simp only [List.length_cons]; omega, h4⟩
theorem rN_rel {l : List Int} {b : Int} {s' s : Nat × Int} (h : Rel l s' s) (he : (rN (l ++ [b]) s').2.2 = 0) :
    s = s' ∧ Rel l (rN (l ++ [b]) s').2 (rN l s).2 ∧ ((rN l s).2.2 = 0 → (rN l s).1 = (rN (l ++ [b]) s').1) := by
  rcases h with ⟨rfl, h0, hp⟩ | ⟨h1, rfl⟩
  · refine ⟨rfl, ?_⟩
    obtain ⟨p, e⟩ := s
    obtain rfl : e = 0 := h0
    have hp' : p ≤ l.length := hp
    unfold rN at he ⊢
    rw [if_pos rfl] at he
    rw [if_pos rfl, if_pos rfl]
    unfold rdNum at he ⊢
    rw [List.drop_append_of_le_length hp'] at he ⊢
    simp only at he ⊢
    have hd : (l.drop p).length = l.length - p := by simp
    rcases scan_short (l.drop p) b 0 0 he with ⟨h3, h4⟩ | ⟨h3, h4⟩
    · rw [h4]
      exact ⟨.inl ⟨rfl, he, by simp only; omega⟩, fun _ => rfl⟩
    · refine ⟨.inr ⟨h4, ?_⟩, fun h => absurd h (by rw [h4]; decide)⟩
      rw [he, h3, hd]; congr 1; omega
  · exfalso
    unfold rN at he
    rw [if_pos rfl] at he
    unfold rdNum at he
    rw [List.drop_eq_nil_of_le (by simp)] at he
    exact absurd he (by simp [scan])
theorem rI_rel {l : List Int} {b : Int} (lo hi : Int) {s' s : Nat × Int} (h : Rel l s' s) (he : (rI (l ++ [b]) lo hi s').2.2 = 0) :
    s = s' ∧ Rel l (rI (l ++ [b]) lo hi s').2 (rI l lo hi s).2 ∧ ((rI l lo hi s).2.2 = 0 → (rI l lo hi s).1 = (rI (l ++ [b]) lo hi s').1) := by
  rcases h with ⟨rfl, h0, hp⟩ | ⟨h1, rfl⟩
  · refine ⟨rfl, ?_⟩
    obtain ⟨p, e⟩ := s
    obtain rfl : e = 0 := h0
    have hr := rN_rel (l := l) (b := b) (s' := (p, 0)) (s := (p, 0)) (.inl ⟨rfl, rfl, hp⟩)
    unfold rN at hr
    rw [if_pos rfl, if_pos rfl] at hr
    unfold rI at he ⊢
    rw [if_pos rfl] at he
    rw [if_pos rfl, if_pos rfl]
    have hq : (rdNum (l ++ [b]) p).2.2 = 0 := by
      by_cases hq : (rdNum (l ++ [b]) p).2.2 = 0
      · exact hq
      · unfold rdInt at he; rw [if_neg hq] at he; exact absurd he hq
    have hr2 := (hr hq).2
    have hin : inRange (rdNum (l ++ [b]) p).1 lo hi := by
      by_cases hin : inRange (rdNum (l ++ [b]) p).1 lo hi
      · exact hin
      · unfold rdInt at he; rw [if_pos hq, if_neg hin] at he; exact absurd he (by simp)
    have e1 : rdInt (l ++ [b]) p lo hi = rdNum (l ++ [b]) p := by unfold rdInt; rw [if_pos hq, if_pos hin]
    rw [e1]
    by_cases hz : (rdNum l p).2.2 = 0
    · have e2 : rdInt l p lo hi = rdNum l p := by unfold rdInt; rw [if_pos hz, if_pos (by rw [hr2.2 hz]; exact hin)]
      rw [e2]; exact hr2
    · have e2 : (rdInt l p lo hi).2 = (rdNum l p).2 := by unfold rdInt; rw [if_neg hz]
      rw [e2]; exact ⟨hr2.1, fun h => absurd h hz⟩
  · exfalso
    unfold rI at he
    rw [if_pos rfl] at he
    unfold rdInt rdNum at he
    rw [List.drop_eq_nil_of_le (by simp)] at he
    exact absurd he (by simp [scan])
theorem rB_rel {l : List Int} {b : Int} {s' s : Nat × Int} (h : Rel l s' s) (he : (rB (l ++ [b]) s').2.2 = 0) :
    s = s' ∧ Rel l (rB (l ++ [b]) s').2 (rB l s).2 ∧ ((rB l s).2.2 = 0 → (rB l s).1 = (rB (l ++ [b]) s').1) := by
  rcases h with ⟨rfl, h0, hp⟩ | ⟨h1, rfl⟩
  · refine ⟨rfl, ?_⟩
    obtain ⟨p, e⟩ := s
    obtain rfl : e = 0 := h0
    have hp' : p ≤ l.length := hp
    unfold rB at he ⊢
    rw [if_pos rfl, if_neg (by simp; omega)] at he
    rw [if_pos rfl, if_neg (by simp; omega), if_pos rfl]
    simp only at he ⊢
    by_cases hq : p = l.length
    · rw [if_pos hq]
      exact ⟨.inr ⟨rfl, by rw [he, hq]⟩, fun h => absurd h (by simp)⟩
    · rw [if_neg hq]
      have e1 : rd (l ++ [b]) (p : Int) = rd l (p : Int) := by
        have : p < l.length := by omega
        simp [rd, List.getElem?_append_left this]
      rw [e1] at he ⊢
      exact ⟨.inl ⟨rfl, he, by simp only; omega⟩, fun _ => rfl⟩
  · exfalso
    unfold rB at he
    rw [if_pos rfl, if_pos (by simp)] at he
    exact absurd he (by simp)
theorem rN0 {l : List Int} {s : Nat × Int} (h : (rN l s).2.2 = 0) : s.2 = 0 := by
  by_cases h0 : s.2 = 0
  · exact h0
  · unfold rN at h; rw [if_neg h0] at h; exact h
theorem rI0 {l : List Int} {lo hi : Int} {s : Nat × Int} (h : (rI l lo hi s).2.2 = 0) : s.2 = 0 := by
  by_cases h0 : s.2 = 0
  · exact h0
  · unfold rI at h; rw [if_neg h0] at h; exact h
theorem rB0 {l : List Int} {s : Nat × Int} (h : (rB l s).2.2 = 0) : s.2 = 0 := by
  by_cases h0 : s.2 = 0
  · exact h0
  · unfold rB at h; rw [if_neg h0] at h; exact h
theorem linesF_bad {l : List Int} {n : Nat} {s : Nat × Int} (h : s.2 ≠ 0) : linesF l n s = ([], s) := by
  cases n with
  | zero => rfl
  | succ n => unfold linesF; rw [if_neg h]
theorem netsF_bad {l : List Int} {n : Nat} {s : Nat × Int} (h : s.2 ≠ 0) : netsF l n s = ([], s) := by
  cases n with
  | zero => rfl
  | succ n => unfold netsF; rw [if_neg h]
theorem linesF0 {l : List Int} {n : Nat} {s : Nat × Int} (h : (linesF l n s).2.2 = 0) : s.2 = 0 := by
  by_cases h0 : s.2 = 0
  · exact h0
  · rw [linesF_bad h0] at h; exact h
theorem netsF0 {l : List Int} {n : Nat} {s : Nat × Int} (h : (netsF l n s).2.2 = 0) : s.2 = 0 := by
  by_cases h0 : s.2 = 0
  · exact h0
  · rw [netsF_bad h0] at h; exact h
theorem linesF_rel {l : List Int} {b : Int} : ∀ (n : Nat) {s' s : Nat × Int}, Rel l s' s → (linesF (l ++ [b]) n s').2.2 = 0 →
    Rel l (linesF (l ++ [b]) n s').2 (linesF l n s).2 ∧ ((linesF l n s).2.2 = 0 → (linesF l n s).1 = (linesF (l ++ [b]) n s').1) := by
  intro n
  induction n with
  | zero => intro s' s h _; exact ⟨h, fun _ => rfl⟩
  | succ n ih =>
    intro s' s h he
    have h0 := linesF0 he
    unfold linesF at he
    rw [if_pos h0] at he
    simp only at he
    obtain ⟨rfl, ha, va⟩ := rI_rel 0 1073741824 h (rI0 (rI0 (rN0 (linesF0 he))))
    obtain ⟨ea, hb, vb⟩ := rI_rel 0 1073741824 ha (rI0 (rN0 (linesF0 he)))
    obtain ⟨eb, hc, vc⟩ := rI_rel 0 1073741824 hb (rN0 (linesF0 he))
    obtain ⟨ec, hd, vd⟩ := rN_rel hc (linesF0 he)
    obtain ⟨hr, vr⟩ := ih hd he
    unfold linesF
    rw [if_pos h0, if_pos h0]
    simp only
    refine ⟨hr, fun hz => ?_⟩
    rw [vr hz, vd (linesF0 hz), vc (rN0 (linesF0 hz)), vb (rI0 (rN0 (linesF0 hz))), va (rI0 (rI0 (rN0 (linesF0 hz))))]
theorem netsF_rel {l : List Int} {b : Int} : ∀ (n : Nat) {s' s : Nat × Int}, Rel l s' s → (netsF (l ++ [b]) n s').2.2 = 0 →
    Rel l (netsF (l ++ [b]) n s').2 (netsF l n s).2 := by
  intro n
  induction n with
  | zero => intro s' s h _; exact h
  | succ n ih =>
    intro s' s h he
    have h0 := netsF0 he
    unfold netsF at he
    rw [if_pos h0] at he
    simp only at he
    obtain ⟨rfl, ha, va⟩ := rN_rel h (netsF0 he)
    have hr := ih ha he
    unfold netsF
    rw [if_pos h0, if_pos h0]
    exact hr
theorem from_short {l : List Int} {b : Int} {m : S28} (h : fromF (l ++ [b]) (0, 0) = (m, 0, l.length + 1, 0)) : (fromF l (0, 0)).2.1 = 40 := by
  have R0 : Rel l (0, 0) (0, 0) := .inl ⟨rfl, rfl, Nat.zero_le _⟩
  unfold fromF at h
  dsimp only at h
  split at h
  · rename_i h1; simp at h
  rename_i hk
  split at h
  rotate_left
  · rename_i h1; simp at h; exact absurd h.2.1 h1
  rename_i hz
  have hq : (netsF (l ++ [b]) _ _).2 = (l.length + 1, 0) := congrArg (fun x => x.2.2) h
  clear h
  have z12 := netsF0 hz
  have z11 := rI0 z12
  have z10 := linesF0 z11
  have z9 := rI0 z10
  have z8 := rB0 z9
  have z7 := rN0 z8
  have z6 := rI0 z7
  have z5 := rI0 z6
  have z4 := rI0 z5
  have z3 := rI0 z4
  have z2 := rI0 z3
  have z1 := rI0 z2
  obtain ⟨-, h1, v1⟩ := rI_rel 0 1073741824 R0 z1
  obtain ⟨e1, h2, -⟩ := rI_rel 0 1073741824 h1 z2
  obtain ⟨e2, h3, -⟩ := rI_rel 0 1073741824 h2 z3
  obtain ⟨e3, h4, -⟩ := rI_rel 0 1073741824 h3 z4
  obtain ⟨e4, h5, -⟩ := rI_rel 0 1073741824 h4 z5
  obtain ⟨e5, h6, -⟩ := rI_rel 0 1073741824 h5 z6
  obtain ⟨e6, h7, -⟩ := rI_rel 0 1073741824 h6 z7
  obtain ⟨e7, h8, -⟩ := rN_rel h7 z8
  obtain ⟨e8, h9, -⟩ := rB_rel h8 z9
  obtain ⟨e9, h10, v10⟩ := rI_rel 0 1024 h9 z10
  obtain ⟨h11, -⟩ := linesF_rel _ h10 z11
  obtain ⟨e11, h12, v12⟩ := rI_rel 0 8 h11 z12
  have h13 := netsF_rel _ h12 hz
  have w10 := v10 (linesF0 (by rw [e11]; exact z11))
  rw [← w10] at h12 h13 v12 hq
  have hk2 : ¬((rI l 0 1073741824 (0, 0)).2.2 = 0 ∧ ((rI l 0 1073741824 (0, 0)).1 < 1 ∨ (rI l 0 1073741824 (0, 0)).1 > 16)) := by
    intro hh
    rw [v1 hh.1] at hh
    exact hk ⟨z1, hh.2⟩
  unfold fromF
  dsimp only
  rw [if_neg hk2]
  by_cases hn : (rI l 0 8 (linesF l (rI l 0 1024 (rB l (rN l (rI l 0 1073741824 (rI l 0 1073741824 (rI l 0 1073741824 (rI l 0 1073741824 (rI l 0 1073741824 (rI l 0 1073741824 (rI l 0 1073741824 (0, 0)).2).2).2).2).2).2).2).2).2).1.toNat (rI l 0 1024 (rB l (rN l (rI l 0 1073741824 (rI l 0 1073741824 (rI l 0 1073741824 (rI l 0 1073741824 (rI l 0 1073741824 (rI l 0 1073741824 (rI l 0 1073741824 (0, 0)).2).2).2).2).2).2).2).2).2).2).2).2.2 = 0
  · rw [← v12 hn] at h13 hq
    rcases h13 with ⟨h, -, hle⟩ | ⟨h, -⟩
    · rw [hq] at hle; exact absurd hle (by simp)
    · rw [if_neg (by rw [h]; decide)]; exact h
  · rcases h12 with ⟨h, he, -⟩ | ⟨h, -⟩
    · rw [h] at hn; exact absurd he hn
    · rw [netsF_bad hn, if_neg (by rw [h]; decide)]; exact h
theorem read_short {m : S28} (hc : wcode m = 0) (hw : Wide m) : readF ((body m).take ((body m).length - 1)) = (z28, 40) := by
  have hp := body_pos m
  obtain ⟨l, b, hl⟩ : ∃ l b, body m = l ++ [b] := by
    refine ⟨(body m).dropLast, (body m).getLast (List.ne_nil_of_length_pos hp), (List.dropLast_concat_getLast _).symm⟩
  have h := from_body (l := body m) (s := []) (p := 0) hc hw (by simp)
  have hlen : (body m).length = l.length + 1 := by rw [hl]; simp
  rw [Nat.zero_add, hlen, hl] at h
  have h2 := from_short h
  rw [hlen, hl]
  have ht : (l ++ [b]).take (l.length + 1 - 1) = l := by simp
  rw [ht]
  unfold readF
  rw [h2]
  simp
end Go.Proofs.Ytgmfafmefafiiaa.Pure.Msg
namespace Go.Proofs.Ytgmfafmefafiiaa.Pure.Msg
open Go.RowKit Go.Proofs.Ytgmfafmefafiiaa.M Go.Proofs.YtgmfafmefafiiaaW.PrintWords Go.Proofs.YtgmfafmefafiiaaW.PrintLast Go.Proofs.YtgmfafmefafiiaaW.PrintMore Go.Proofs.Ytgmfafmefafiiaa.Pure.Code
theorem zig_unzig (q : Nat) : Bits.zig (Bits.unzig q) = q := by
  unfold Bits.unzig Bits.zig
  split <;> split <;> omega
theorem I64_unzig {q : Nat} (h : q < 2 ^ 64) : I64 (Bits.unzig q) := by
  unfold Bits.unzig I64
  split <;> omega
theorem rN_inv {l : List Int} (hb : Bytes l) {s : Nat × Int} (h : (rN l s).2.2 = 0) : I64 (rN l s).1 ∧ l.drop s.1 = enc (rN l s).1 ++ l.drop (rN l s).2.1 := by
  have hs := rN0 h
  have e1 : rN l s = rdNum l s.1 := by unfold rN; rw [if_pos hs]
  rw [e1] at h ⊢
  unfold rdNum at h ⊢
  simp only at h ⊢
  obtain ⟨q, h1, h2, h3, h4, h5⟩ := scan_one (l.drop s.1) 0 0 (fun x hx => hb x (List.mem_of_mem_drop hx)) (by omega) (by omega) h
  rw [if_pos h]
  rw [show (scan (l.drop s.1) 0 0).2.2 = q by omega] at h4 ⊢
  refine ⟨I64_unzig h4, ?_⟩
  unfold enc
  rw [zig_unzig, ← h2, ← List.drop_drop, List.take_append_drop]
theorem rI_inv {l : List Int} (hb : Bytes l) {lo hi : Int} {s : Nat × Int} (h : (rI l lo hi s).2.2 = 0) : I64 (rI l lo hi s).1 ∧ (lo ≤ (rI l lo hi s).1 ∧ (rI l lo hi s).1 ≤ hi) ∧ l.drop s.1 = enc (rI l lo hi s).1 ++ l.drop (rI l lo hi s).2.1 := by
  have hs := rI0 h
  have e1 : rI l lo hi s = rdInt l s.1 lo hi := by unfold rI; rw [if_pos hs]
  have e2 : rN l s = rdNum l s.1 := by unfold rN; rw [if_pos hs]
  rw [e1] at h ⊢
  have hq : (rdNum l s.1).2.2 = 0 := by
    by_cases hq : (rdNum l s.1).2.2 = 0
    · exact hq
    · unfold rdInt at h; rw [if_neg hq] at h; exact absurd h hq
  have hin : inRange (rdNum l s.1).1 lo hi := by
    by_cases hin : inRange (rdNum l s.1).1 lo hi
    · exact hin
    · unfold rdInt at h; rw [if_pos hq, if_neg hin] at h; exact absurd h (by simp)
  have e3 : rdInt l s.1 lo hi = rdNum l s.1 := by unfold rdInt; rw [if_pos hq, if_pos hin]
  rw [e3, ← e2]
  have := rN_inv hb (s := s) (by rw [e2]; exact hq)
  rw [← e2] at hin
  exact ⟨this.1, hin, this.2⟩
theorem rB_inv {l : List Int} (hb : Bytes l) {s : Nat × Int} (hs1 : s.1 ≤ l.length) (h : (rB l s).2.2 = 0) : l.drop s.1 = [b01 (rB l s).1] ++ l.drop (rB l s).2.1 := by
  have hs := rB0 h
  unfold rB at h ⊢
  rw [if_pos hs] at h ⊢
  by_cases hp : s.1 = l.length
  · rw [if_pos hp] at h; exact absurd h (by simp)
  rw [if_neg hp] at h ⊢
  simp only at h ⊢
  have hlt : s.1 < l.length := by omega
  have e0 : rd l (s.1 : Int) = l[s.1] := by simp [rd, hlt]
  rw [e0] at h ⊢
  have hb1 := (hb l[s.1] (List.getElem_mem _)).1
  have hle : ¬ l[s.1] > 1 := fun hx => by rw [if_pos hx] at h; exact absurd h (by decide)
  have e1 : b01 (l[s.1] == 1) = l[s.1] := by
    unfold b01
    by_cases h1 : l[s.1] = 1
    · rw [h1]; rfl
    · have : (l[s.1] == 1) = false := beq_eq_false_iff_ne.mpr h1
      rw [this]
      have : l[s.1] = 0 := by omega
      rw [this]; rfl
  rw [e1, List.drop_eq_getElem_cons hlt]
  rfl
theorem linesF_inv {l : List Int} (hb : Bytes l) : ∀ (n : Nat) {s : Nat × Int}, (linesF l n s).2.2 = 0 →
    (∀ x ∈ (linesF l n s).1, smallL x ∧ I64 x.f2) ∧ (linesF l n s).1.length = n ∧ l.drop s.1 = linesE (linesF l n s).1 ++ l.drop (linesF l n s).2.1 := by
  intro n
  induction n with
  | zero => intro s _; exact ⟨by simp [linesF], rfl, by simp [linesF, linesE]⟩
  | succ n ih =>
    intro s he
    have h0 := linesF0 he
    unfold linesF at he ⊢
    rw [if_pos h0] at he ⊢
    simp only at he ⊢
    obtain ⟨i1, i2, i3⟩ := ih he
    have hd := linesF0 he
    obtain ⟨d1, d2⟩ := rN_inv hb hd
    have hc := rN0 hd
    obtain ⟨c1, c2, c3⟩ := rI_inv hb hc
    have hbb := rI0 hc
    obtain ⟨b1, b2, b3⟩ := rI_inv hb hbb
    have ha := rI0 hbb
    obtain ⟨a1, a2, a3⟩ := rI_inv hb ha
    refine ⟨fun x hx => ?_, by simp [i2], ?_⟩
    · rcases List.mem_cons.mp hx with rfl | hx
      · exact ⟨⟨a2, b2, c2⟩, d1⟩
      · exact i1 x hx
    · rw [a3, b3, c3, d2, i3]
      simp [linesE, lineE, lineL, menc, List.append_assoc]
theorem netsF_inv {l : List Int} (hb : Bytes l) : ∀ (n : Nat) {s : Nat × Int}, (netsF l n s).2.2 = 0 →
    (∀ x ∈ (netsF l n s).1, I64 x) ∧ (netsF l n s).1.length = n ∧ l.drop s.1 = menc (netsF l n s).1 ++ l.drop (netsF l n s).2.1 := by
  intro n
  induction n with
  | zero => intro s _; exact ⟨by simp [netsF], rfl, by simp [netsF, menc]⟩
  | succ n ih =>
    intro s he
    have h0 := netsF0 he
    unfold netsF at he ⊢
    rw [if_pos h0] at he ⊢
    simp only at he ⊢
    obtain ⟨i1, i2, i3⟩ := ih he
    obtain ⟨a1, a2⟩ := rN_inv hb (netsF0 he)
    refine ⟨fun x hx => ?_, by simp [i2], ?_⟩
    · rcases List.mem_cons.mp hx with rfl | hx
      · exact a1
      · exact i1 x hx
    · rw [a2, i3]
      simp [menc, List.append_assoc]
theorem from_inv {l : List Int} (hb : Bytes l) {s : Nat × Int} {m : S28} {q : Nat × Int} (hs1 : s.1 ≤ l.length) (h : fromF l s = (m, 0, q)) (hq : q.2 = 0) : wcode m = 0 ∧ Wide m ∧ l.drop s.1 = body m ++ l.drop q.1 := by
  unfold fromF at h
  dsimp only at h
  split at h
  · rename_i h1; simp at h
  rename_i hk
  split at h
  rotate_left
  · rename_i h1; simp at h; exact absurd h.2.1 h1
  rename_i hz
  have z12 := netsF0 hz
  have z11 := rI0 z12
  have z10 := linesF0 z11
  have z9 := rI0 z10
  have z8 := rB0 z9
  have z7 := rN0 z8
  have z6 := rI0 z7
  have z5 := rI0 z6
  have z4 := rI0 z5
  have z3 := rI0 z4
  have z2 := rI0 z3
  have z1 := rI0 z2
  obtain ⟨k1, k2, k3⟩ := rI_inv hb z1
  obtain ⟨a1, a2, a3⟩ := rI_inv hb z2
  obtain ⟨b1, b2, b3⟩ := rI_inv hb z3
  obtain ⟨c1, c2, c3⟩ := rI_inv hb z4
  obtain ⟨d1, d2, d3⟩ := rI_inv hb z5
  obtain ⟨f1, f2, f3⟩ := rI_inv hb z6
  obtain ⟨g1, g2, g3⟩ := rI_inv hb z7
  obtain ⟨n1, n2⟩ := rN_inv hb z8
  have y1 := rB_inv hb (rN_le (rI_le _ _ (rI_le _ _ (rI_le _ _ (rI_le _ _ (rI_le _ _ (rI_le _ _ (rI_le _ _ hs1)))))))) z9
  obtain ⟨o1, o2, o3⟩ := rI_inv hb z10
  obtain ⟨p1, p2, p3⟩ := linesF_inv hb _ z11
  obtain ⟨r1, r2, r3⟩ := rI_inv hb z12
  obtain ⟨t1, t2, t3⟩ := netsF_inv hb _ hz
  injection h with hm hq2
  injection hq2 with _ hq2
  subst hm hq2
  refine ⟨?_, ?_, ?_⟩
  · unfold wcode
    rw [if_neg (fun hh => hk ⟨z1, hh⟩), if_neg ?_, if_pos ?_]
    · refine ⟨fun x hx => ?_, fun x hx => (p1 x hx).1⟩
      simp only [head, List.mem_cons, List.not_mem_nil, or_false] at hx
      rcases hx with rfl | rfl | rfl | rfl | rfl | rfl | rfl
      · exact k2
      · exact a2
      · exact b2
      · exact c2
      · exact d2
      · exact f2
      · exact g2
    · simp only
      rw [p2, t2]
      omega
  · refine ⟨fun x hx => ?_, n1, fun x hx y hy => ?_, t1⟩
    · simp only [head, List.mem_cons, List.not_mem_nil, or_false] at hx
      rcases hx with rfl | rfl | rfl | rfl | rfl | rfl | rfl
      · exact k1
      · exact a1
      · exact b1
      · exact c1
      · exact d1
      · exact f1
      · exact g1
    · have hx2 := p1 x hx
      simp only [lineL, List.mem_cons, List.not_mem_nil, or_false] at hy
      rcases hy with rfl | rfl | rfl | rfl
      · exact small_I64 hx2.1.1
      · exact small_I64 hx2.1.2.1
      · exact small_I64 hx2.1.2.2
      · exact hx2.2
  · have e8 := p2
    have e9 := t2
    unfold body
    simp only [head, menc, List.flatMap_cons, List.flatMap_nil, List.append_nil]
    rw [k3, a3, b3, c3, d3, f3, g3, n2, y1, o3, p3, r3, t3]
    rw [e8, e9, Int.toNat_of_nonneg o2.1, Int.toNat_of_nonneg r2.1]
    simp only [List.append_assoc, menc]
theorem read_inv {l : List Int} (hb : Bytes l) {m : S28} (h : readF l = (m, 0)) : wcode m = 0 ∧ Wide m ∧ body m = l := by
  unfold readF at h
  have hle := fromF_le (l := l) (s := (0, 0)) (Nat.zero_le _)
  obtain ⟨m', c, q, e, hf⟩ : ∃ m' c q e, fromF l (0, 0) = (m', c, q, e) := ⟨_, _, _, _, rfl⟩
  rw [hf] at h hle
  simp only at h hle
  by_cases hc : c = 0
  · subst hc
    rw [if_pos rfl] at h
    by_cases h1 : q < l.length ∧ e = 0
    · rw [if_pos h1] at h; simp at h
    rw [if_neg h1] at h
    by_cases he : e = 0
    · subst he
      rw [if_pos rfl] at h
      injection h with h _
      subst h
      obtain ⟨h2, h3, h4⟩ := from_inv hb (Nat.zero_le _) hf rfl
      refine ⟨h2, h3, ?_⟩
      have hql : q = l.length := by omega
      rw [hql] at h4
      simp at h4
      exact h4.symm
    · rw [if_neg he] at h
      injection h with _ h
      exact absurd h he
  · rw [if_neg hc] at h
    injection h with _ h
    exact absurd h hc
end Go.Proofs.Ytgmfafmefafiiaa.Pure.Msg
