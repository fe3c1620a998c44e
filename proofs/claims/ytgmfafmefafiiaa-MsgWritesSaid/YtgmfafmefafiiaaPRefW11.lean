/-
  The document's answer for a message's bytes (contraref11.Write), plainly.
-/
import Derived.Test.YtgmfafmefafiiaaMx5
import Derived.Test.YtgmfafmefafiiaaPRef11
import Derived.Test.YtgmfafmefafiiaaPMsg2
namespace Go.Proofs.Ytgmfafmefafiiaa.Pure.Msg
open Go.RowKit Go.Proofs.Ytgmfafmefafiiaa.M Go.Proofs.YtgmfafmefafiiaaW.PrintWords Go.Proofs.YtgmfafmefafiiaaW.PrintLast Go.Proofs.YtgmfafmefafiiaaW.PrintMore Go.Proofs.Ytgmfafmefafiiaa.Pure.Code
set_option linter.unusedVariables false
theorem small_f (n : Int) : contraref11_small.f n = some (decide (small n)) := by
  by_cases h : small n
  · rw [decide_eq_true h]
    unfold contraref11_small.f
    rw [if_pos h.1, decide_eq_true h.2]
  · rw [decide_eq_false h]
    unfold contraref11_small.f
    by_cases h2 : n ≥ 0
    · rw [if_pos h2, decide_eq_false (fun h3 => h ⟨h2, h3⟩)]
    · rw [if_neg h2]
theorem rd_get {l : List Int} {i : Nat} (h : i < l.length) : rd l (i : Int) = l[i] := by simp [rd, h]
theorem rdT50_get {l : List S50} {i : Nat} (h : i < l.length) : rd_T50 l (i : Int) = l[i] := by simp [rd_T50, h]
theorem refw_l1 (p0 p1 p2 p3 p4 p5 p6 p7 : Int) (p8 : Bool) (l8 : List S50) (l9 : List Int) (h9 : ∀ x ∈ l9, I64 x) (hl : l9.length ≤ 1000000) : ∀ (d i : Nat) (s : List Int), i + d = l9.length → s.length + 10 * d ≤ 100000000 →
    Ev (fun k => contraref11_Write.l1 k (strOfNums s) (i : Int) p0 p1 p2 p3 p4 p5 p6 p7 p8 l8 l9) (strOfNums (s ++ menc (l9.drop i)), 0) := by
  intro d
  induction d with
  | zero =>
    intro i s hi hs
    refine Ev.up ?_
    simp only [contraref11_Write.l1]
    refine Ev.neg (by omega) (Ev.some_ ?_)
    rw [List.drop_eq_nil_of_le (by omega)]
    simp [menc]
  | succ d ih =>
    intro i s hi hs
    have hlt : i < l9.length := by omega
    refine Ev.up ?_
    simp only [contraref11_Write.l1]
    refine Ev.pos (by omega) (Ev.pos (by omega) ?_)
    have hx : I64 (rd l9 (i : Int)) := by rw [rd_get hlt]; exact h9 _ (List.getElem_mem _)
    have hlen := enc_len hx
    refine Ev.bind (ref_num_ev hx) (Ev.pos (by rw [str_size, str_size]; omega) ?_)
    have e1 : wrap64 ((i : Int) + 1) = ((i + 1 : Nat) : Int) := by unfold wrap64; omega
    rw [e1, ← str_append]
    refine (ih (i + 1) _ (by omega) (by rw [List.length_append]; omega)).eq ?_
    have e2 : menc (l9.drop i) = enc (rd l9 (i : Int)) ++ menc (l9.drop (i + 1)) := by
      rw [rd_get hlt, List.drop_eq_getElem_cons hlt]; rfl
    rw [e2, List.append_assoc]
theorem lineE_eq (x : S50) : lineE x = enc x.f0.f0 ++ enc x.f0.f1 ++ enc x.f1 ++ enc x.f2 := by simp [lineE, lineL, menc, List.append_assoc]
theorem refw_l0 (p0 p1 p2 p3 p4 p5 p6 p7 : Int) (p8 : Bool) (l8 : List S50) (l9 : List Int) (h8 : ∀ x ∈ l8, ∀ y ∈ lineL x, I64 y) (h9 : ∀ x ∈ l9, I64 x) (hl8 : l8.length ≤ 1000000) (hl : l9.length ≤ 1000000) : ∀ (d i : Nat) (s : List Int), i + d = l8.length → s.length + 40 * d ≤ 50000000 →
    Ev (fun k => contraref11_Write.l0 k (strOfNums s) (i : Int) p0 p1 p2 p3 p4 p5 p6 p7 p8 l8 l9) (if ∀ x ∈ l8.drop i, smallL x then (strOfNums (s ++ linesE (l8.drop i) ++ enc (l9.length : Int) ++ menc l9), 0) else ((⟨#[]⟩ : ByteArray), 1)) := by
  intro d
  induction d with
  | zero =>
    intro i s hi hs
    refine Ev.up ?_
    simp only [contraref11_Write.l0]
    refine Ev.neg (by omega) ?_
    have hx : I64 (l9.length : Int) := by unfold I64; omega
    have hlen := enc_len hx
    refine Ev.bind (ref_num_ev hx) (Ev.pos (by rw [str_size, str_size]; omega) ?_)
    rw [← str_append]
    refine (refw_l1 p0 p1 p2 p3 p4 p5 p6 p7 p8 l8 l9 h9 hl l9.length 0 _ (by omega) (by rw [List.length_append]; omega)).eq ?_
    have e : l8.drop i = [] := List.drop_eq_nil_of_le (by omega)
    rw [e, List.drop_zero, if_pos (by simp)]
    simp [linesE]
  | succ d ih =>
    intro i s hi hs
    have hlt : i < l8.length := by omega
    refine Ev.up ?_
    simp only [contraref11_Write.l0]
    have hq := h8 (rd_T50 l8 (i : Int)) (by rw [rdT50_get hlt]; exact List.getElem_mem _)
    have e0 : l8.drop i = rd_T50 l8 (i : Int) :: l8.drop (i + 1) := by rw [rdT50_get hlt]; exact List.drop_eq_getElem_cons hlt
    rw [e0]
    obtain ⟨q, hqe⟩ : ∃ q, q = rd_T50 l8 (i : Int) := ⟨_, rfl⟩
    rw [← hqe] at hq ⊢
    have i0 := hq q.f0.f0 (by simp [lineL]); have i1 := hq q.f0.f1 (by simp [lineL]); have i2 := hq q.f1 (by simp [lineL]); have i3 := hq q.f2 (by simp [lineL])
    have n0 := enc_len i0; have n1 := enc_len i1; have n2 := enc_len i2; have n3 := enc_len i3
    have hbad : ¬ smallL q → Ev (fun k => contraref11_Write.j4 k (strOfNums s) (i : Int) true p0 p1 p2 p3 p4 p5 p6 p7 p8 l8 l9 q.f0.f0 q.f0.f1 q.f1 q.f2) (if ∀ x ∈ q :: l8.drop (i + 1), smallL x then (strOfNums (s ++ linesE (q :: l8.drop (i + 1)) ++ enc (l9.length : Int) ++ menc l9), 0) else ((⟨#[]⟩ : ByteArray), 1)) := by
      intro hn
      refine Ev.up ?_
      simp only [contraref11_Write.j4]
      refine Ev.pos trivial (Ev.some_ ?_)
      rw [if_neg (fun h => hn (h q (by simp)))]
    refine Ev.pos (by omega) (Ev.pos (by omega) ?_)
    simp only [small_f, Option.bind_some]
    by_cases h0 : small q.f0.f0
    rotate_left
    · exact Ev.neg (by simpa using h0) (hbad (fun h => h0 h.1))
    refine Ev.pos (by simpa using h0) ?_
    by_cases h1 : small q.f0.f1
    rotate_left
    · exact Ev.neg (by simpa using h1) (hbad (fun h => h1 h.2.1))
    refine Ev.pos (by simpa using h1) ?_
    by_cases h2 : small q.f1
    rotate_left
    · have e_ : (!decide (small q.f1)) = true := by simpa using h2
      rw [e_]; exact hbad (fun h => h2 h.2.2)
    have hs3 : smallL q := ⟨h0, h1, h2⟩
    refine Ev.up ?_
    simp only [contraref11_Write.j4]
    refine Ev.neg (by simpa using h2) ?_
    refine Ev.bind (ref_num_ev i0) (Ev.bind (ref_num_ev i1) (Ev.pos (by rw [str_size, str_size]; omega) ?_))
    rw [← str_append]
    refine Ev.bind (ref_num_ev i2) (Ev.pos (by rw [str_size, str_size, List.length_append]; omega) ?_)
    rw [← str_append]
    refine Ev.bind (ref_num_ev i3) (Ev.pos (by rw [str_size, str_size, List.length_append, List.length_append]; omega) ?_)
    rw [← str_append, ← lineE_eq]
    have hle : (lineE q).length ≤ 40 := by rw [lineE_eq]; simp only [List.length_append]; omega
    refine Ev.pos (by rw [str_size, str_size]; omega) ?_
    have e1 : wrap64 ((i : Int) + 1) = ((i + 1 : Nat) : Int) := by unfold wrap64; omega
    rw [e1, ← str_append]
    refine (ih (i + 1) _ (by omega) (by rw [List.length_append]; omega)).eq ?_
    have e2 : linesE (q :: l8.drop (i + 1)) = lineE q ++ linesE (l8.drop (i + 1)) := rfl
    by_cases ha : ∀ x ∈ l8.drop (i + 1), smallL x
    · rw [if_pos ha, if_pos (by intro x hx; rcases List.mem_cons.mp hx with h | h; (rw [h]; exact hs3); exact ha x h), e2]
      simp only [List.append_assoc]
    · rw [if_neg ha, if_neg (fun h => ha (fun x hx => h x (by simp [hx])))]
theorem refw_ev {m : S28} (hw : Wide m) : Ev (fun k => contraref11_Write.f k m.f0 m.f1.f0 m.f1.f1 m.f2 m.f3 m.f4 m.f5 m.f6 m.f7 m.f8 m.f9) (if wcode m = 0 then (strOfNums (body m), 0) else ((⟨#[]⟩ : ByteArray), wcode m)) := by
  unfold contraref11_Write.f
  have hk : (m.f0 < 1 ∨ m.f0 > 16) → Ev (fun k => contraref11_Write.j0 k true m.f0 m.f1.f0 m.f1.f1 m.f2 m.f3 m.f4 m.f5 m.f6 m.f7 m.f8 m.f9) (if wcode m = 0 then (strOfNums (body m), 0) else ((⟨#[]⟩ : ByteArray), wcode m)) := by
    intro h
    have hc : wcode m = 110 := by unfold wcode; rw [if_pos h]
    rw [hc, if_neg (by decide)]
    refine Ev.up ?_
    simp only [contraref11_Write.j0]
    exact Ev.pos trivial (Ev.now _)
  by_cases h1 : m.f0 < 1
  · exact Ev.pos h1 (hk (.inl h1))
  refine Ev.neg h1 ?_
  by_cases h2 : m.f0 > 16
  · have e : decide (m.f0 > 16) = true := decide_eq_true h2
    rw [e]; exact hk (.inr h2)
  have e : decide (m.f0 > 16) = false := decide_eq_false h2
  rw [e]
  have hkk : ¬(m.f0 < 1 ∨ m.f0 > 16) := by omega
  refine Ev.up ?_
  simp only [contraref11_Write.j0]
  refine Ev.neg (by decide) ?_
  have hj : (m.f8.length > 1024 ∨ m.f9.length > 8) → Ev (fun k => contraref11_Write.j1 k true m.f0 m.f1.f0 m.f1.f1 m.f2 m.f3 m.f4 m.f5 m.f6 m.f7 m.f8 m.f9) (if wcode m = 0 then (strOfNums (body m), 0) else ((⟨#[]⟩ : ByteArray), wcode m)) := by
    intro h
    have hc : wcode m = 2 := by unfold wcode; rw [if_neg hkk, if_pos h]
    rw [hc, if_neg (by decide)]
    refine Ev.up ?_
    simp only [contraref11_Write.j1]
    exact Ev.pos trivial (Ev.now _)
  by_cases h3 : m.f8.length > 1024
  · exact Ev.pos (by omega) (hj (.inl h3))
  refine Ev.neg (by omega) ?_
  by_cases h4 : m.f9.length > 8
  · have e : decide ((m.f9.length : Int) > 8) = true := decide_eq_true (by omega)
    rw [e]; exact hj (.inr h4)
  have e : decide ((m.f9.length : Int) > 8) = false := decide_eq_false (by omega)
  rw [e]
  have hll : ¬(m.f8.length > 1024 ∨ m.f9.length > 8) := by omega
  have hwc : wcode m = if (∀ x ∈ head m, small x) ∧ ∀ x ∈ m.f8, smallL x then 0 else 1 := by unfold wcode; rw [if_neg hkk, if_neg hll]
  have hr : ¬ (∀ x ∈ head m, small x) → Ev (fun k => contraref11_Write.j2 k true m.f0 m.f1.f0 m.f1.f1 m.f2 m.f3 m.f4 m.f5 m.f6 m.f7 m.f8 m.f9) (if wcode m = 0 then (strOfNums (body m), 0) else ((⟨#[]⟩ : ByteArray), wcode m)) := by
    intro h
    have hc : wcode m = 1 := by rw [hwc, if_neg (fun hh => h hh.1)]
    rw [hc, if_neg (by decide)]
    refine Ev.up ?_
    simp only [contraref11_Write.j2]
    exact Ev.pos trivial (Ev.now _)
  refine Ev.up ?_
  simp only [contraref11_Write.j1]
  refine Ev.neg (by decide) ?_
  simp only [small_f, Option.bind_some]
  by_cases s1 : small m.f1.f0
  rotate_left
  · exact Ev.neg (by simpa using s1) (hr (fun h => s1 (h _ (by simp [head]))))
  refine Ev.pos (by simpa using s1) ?_
  by_cases s2 : small m.f1.f1
  rotate_left
  · exact Ev.neg (by simpa using s2) (hr (fun h => s2 (h _ (by simp [head]))))
  refine Ev.pos (by simpa using s2) ?_
  by_cases s3 : small m.f2
  rotate_left
  · exact Ev.neg (by simpa using s3) (hr (fun h => s3 (h _ (by simp [head]))))
  refine Ev.pos (by simpa using s3) ?_
  by_cases s4 : small m.f3
  rotate_left
  · exact Ev.neg (by simpa using s4) (hr (fun h => s4 (h _ (by simp [head]))))
  refine Ev.pos (by simpa using s4) ?_
  by_cases s5 : small m.f4
  rotate_left
  · exact Ev.neg (by simpa using s5) (hr (fun h => s5 (h _ (by simp [head]))))
  refine Ev.pos (by simpa using s5) ?_
  by_cases s6 : small m.f5
  rotate_left
  · have e_ : (!decide (small m.f5)) = true := by simpa using s6
    rw [e_]; exact hr (fun h => s6 (h _ (by simp [head])))
  have hh : ∀ x ∈ head m, small x := by
    intro x hx
    simp only [head, List.mem_cons, List.not_mem_nil, or_false] at hx
    rcases hx with rfl | rfl | rfl | rfl | rfl | rfl | rfl
    · unfold small; omega
    · exact s1
    · exact s2
    · exact s3
    · exact s4
    · exact s5
    · exact s6
  have hI : ∀ x ∈ head m, I64 x := hw.1
  have i0 := hI m.f0 (by simp [head]); have i1 := hI m.f1.f0 (by simp [head]); have i2 := hI m.f1.f1 (by simp [head]); have i3 := hI m.f2 (by simp [head]); have i4 := hI m.f3 (by simp [head]); have i5 := hI m.f4 (by simp [head]); have i6 := hI m.f5 (by simp [head])
  have n0 := enc_len i0; have n1 := enc_len i1; have n2 := enc_len i2; have n3 := enc_len i3; have n4 := enc_len i4; have n5 := enc_len i5; have n6 := enc_len i6; have n7 := enc_len hw.2.1
  have i8 : I64 (m.f8.length : Int) := by unfold I64; omega
  have n8 := enc_len i8
  refine Ev.up ?_
  simp only [contraref11_Write.j2]
  refine Ev.neg (by simpa using s6) ?_
  refine Ev.bind (ref_num_ev i0) (Ev.bind (ref_num_ev i1) (Ev.pos (by rw [str_size, str_size]; omega) ?_))
  rw [← str_append]
  refine Ev.bind (ref_num_ev i2) (Ev.pos (by simp only [str_size, List.length_append]; omega) ?_)
  rw [← str_append]
  refine Ev.bind (ref_num_ev i3) (Ev.pos (by simp only [str_size, List.length_append]; omega) ?_)
  rw [← str_append]
  refine Ev.bind (ref_num_ev i4) (Ev.pos (by simp only [str_size, List.length_append]; omega) ?_)
  rw [← str_append]
  refine Ev.bind (ref_num_ev i5) (Ev.pos (by simp only [str_size, List.length_append]; omega) ?_)
  rw [← str_append]
  refine Ev.bind (ref_num_ev i6) (Ev.pos (by simp only [str_size, List.length_append]; omega) ?_)
  rw [← str_append]
  have eb : contraref04_Bool.f m.f7 = some (strOfNums [b01 m.f7]) := by unfold contraref04_Bool.f b01; cases m.f7 <;> rfl
  rw [eb]
  refine Ev.bind (ref_num_ev hw.2.1) (Ev.let_ (Ev.pos (by simp only [str_size, List.length_cons, List.length_nil]; omega) ?_))
  rw [← str_append]
  refine Ev.bind (ref_num_ev i8) (Ev.pos (by simp only [str_size, List.length_append, List.length_cons, List.length_nil]; omega) ?_)
  rw [← str_append]
  refine Ev.pos (by simp only [str_size, List.length_append, List.length_cons, List.length_nil]; omega) ?_
  rw [← str_append]
  refine (refw_l0 m.f0 m.f1.f0 m.f1.f1 m.f2 m.f3 m.f4 m.f5 m.f6 m.f7 m.f8 m.f9 hw.2.2.1 hw.2.2.2 (by omega) (by omega) m.f8.length 0 _ (by omega) (by simp only [List.length_append, List.length_cons, List.length_nil]; omega)).eq ?_
  rw [List.drop_zero]
  by_cases ha : ∀ x ∈ m.f8, smallL x
  · have hc : wcode m = 0 := by rw [hwc, if_pos ⟨hh, ha⟩]
    rw [if_pos ha, if_pos hc]
    congr 2
    simp [body, head, menc, List.append_assoc]
  · have hc : wcode m = 1 := by rw [hwc, if_neg (fun h => ha h.2)]
    rw [if_neg ha, hc, if_neg (by decide)]
end Go.Proofs.Ytgmfafmefafiiaa.Pure.Msg
