/-
  How a message is read, plainly: a reader's state is a place and an error; behind an error nothing is read.
-/
import Derived.Test.YtgmfafmefafiiaaPMsg
namespace Go.Proofs.Ytgmfafmefafiiaa.Pure.Msg
open Go.RowKit Go.Proofs.Ytgmfafmefafiiaa.M Go.Proofs.YtgmfafmefafiiaaW.PrintWords Go.Proofs.YtgmfafmefafiiaaW.PrintLast Go.Proofs.YtgmfafmefafiiaaW.PrintMore Go.Proofs.Ytgmfafmefafiiaa.Pure.Code
set_option linter.unusedVariables false
theorem scan_le : ∀ (s : List Int) (i u : Nat), (scan s i u).1 ≤ s.length := by
  intro s
  induction s with
  | nil => intro i u; simp [scan]
  | cons x s ih =>
    intro i u
    unfold scan
    split
    · simp
    split
    · simp
    · have := ih (i + 1) (u + (x % 128).toNat * 128 ^ i)
      simp only [List.length_cons]
      omega
theorem rdNum_le {l : List Int} {a : Nat} (h : a ≤ l.length) : (rdNum l a).2.1 ≤ l.length := by
  have := scan_le (l.drop a) 0 0
  rw [List.length_drop] at this
  show a + (scan (l.drop a) 0 0).1 ≤ _
  omega
def rN (l : List Int) (s : Nat × Int) : Int × Nat × Int := if s.2 = 0 then rdNum l s.1 else (0, s.1, s.2)
def rI (l : List Int) (lo hi : Int) (s : Nat × Int) : Int × Nat × Int := if s.2 = 0 then rdInt l s.1 lo hi else (0, s.1, s.2)
def rB (l : List Int) (s : Nat × Int) : Bool × Nat × Int :=
  if s.2 = 0 then (if s.1 = l.length then (false, s.1, 40) else (rd l (s.1 : Int) == 1, s.1 + 1, if rd l (s.1 : Int) > 1 then 41 else 0)) else (false, s.1, s.2)
theorem rN_ok {l : List Int} (hl : l.length ≤ 1000000) (hb : Bytes l) {p : Nat} {e : Int} (hp : p ≤ l.length) :
    ∃ x q f, rN l (p, e) = (x, q, f) ∧ q ≤ l.length ∧ ∃ k, code_Reader_Num.f k l (p : Int) e = some (x, (q : Int), f) := by
  by_cases he : e = 0
  · subst he
    refine ⟨(rdNum l p).1, (rdNum l p).2.1, (rdNum l p).2.2, by unfold rN; rw [if_pos rfl], rdNum_le hp, ?_⟩
    exact (rd_num_ev (by omega) hb hp).rounds
  · refine ⟨0, p, e, by unfold rN; rw [if_neg he], hp, ?_⟩
    exact (rd_num_bad he).rounds
theorem rdInt_le {l : List Int} {a : Nat} (lo hi : Int) (h : a ≤ l.length) : (rdInt l a lo hi).2.1 ≤ l.length := by
  have := rdNum_le h
  unfold rdInt
  split
  · split
    · exact this
    · exact this
  · exact this
theorem rI_ok {l : List Int} (hl : l.length ≤ 1000000) (hb : Bytes l) {p : Nat} {e : Int} (hp : p ≤ l.length) (hi : Int) (h0 : 0 ≤ hi) :
    ∃ x q f, rI l 0 hi (p, e) = (x, q, f) ∧ q ≤ l.length ∧ (0 ≤ x ∧ x ≤ hi) ∧ ∃ k, code_Reader_Int.f k l (p : Int) e 0 hi = some (x, (q : Int), f) := by
  by_cases he : e = 0
  · subst he
    refine ⟨(rdInt l p 0 hi).1, (rdInt l p 0 hi).2.1, (rdInt l p 0 hi).2.2, by unfold rI; rw [if_pos rfl], rdInt_le 0 hi hp, ?_, ?_⟩
    · unfold rdInt
      split
      · split
        · rename_i h; exact h
        · exact ⟨by simp, h0⟩
      · exact ⟨by simp, h0⟩
    · exact (rd_int_ev (by omega) hb hp 0 hi).rounds
  · refine ⟨0, p, e, by unfold rI; rw [if_neg he], hp, ⟨by omega, h0⟩, ?_⟩
    refine Ev.rounds ?_
    unfold code_Reader_Int.f
    refine Ev.bind (rd_num_bad he) (Ev.neg he (Ev.up ?_))
    simp only [code_Reader_Int.j0]
    exact Ev.neg (by decide) (Ev.neg he (Ev.now _))
theorem rB_ok {l : List Int} (hl : l.length ≤ 1000000) {p : Nat} {e : Int} (hp : p ≤ l.length) :
    ∃ x q f, rB l (p, e) = (x, q, f) ∧ q ≤ l.length ∧ code_Reader_Bool.f l (p : Int) e = some (x, (q : Int), f) := by
  by_cases he : e = 0
  · subst he
    by_cases h : p = l.length
    · refine ⟨false, p, 40, by unfold rB; rw [if_pos rfl, if_pos h], hp, ?_⟩
      subst h
      unfold code_Reader_Bool.f
      rw [byte_end]
      rfl
    · have hlt : p < l.length := by omega
      have hb := byte_at hlt (by omega)
      have e1 : rd l (p : Int) = l[p] := by simp [rd, hlt]
      refine ⟨rd l (p : Int) == 1, p + 1, if rd l (p : Int) > 1 then 41 else 0, by unfold rB; rw [if_pos rfl, if_neg h], hlt, ?_⟩
      unfold code_Reader_Bool.f
      rw [hb, e1]
      simp only [Option.bind_some]
      by_cases hx : l[p] > 1
      · rw [if_pos hx, if_pos hx]
        unfold code_Reader_fail.f
        rw [if_pos rfl]
        rfl
      · rw [if_neg hx, if_neg hx]
  · refine ⟨false, p, e, by unfold rB; rw [if_neg he], hp, ?_⟩
    unfold code_Reader_Bool.f code_Reader_byte.f
    rw [if_neg he]
    rfl
/-- so many lines, as long as there is no error -/
def linesF (l : List Int) : Nat → Nat × Int → List S50 × Nat × Int
  | 0, s => ([], s)
  | n + 1, s =>
    if s.2 = 0 then
      let a := rI l 0 1073741824 s
      let b := rI l 0 1073741824 a.2
      let c := rI l 0 1073741824 b.2
      let d := rN l c.2
      let r := linesF l n d.2
      (⟨⟨a.1, b.1⟩, c.1, d.1⟩ :: r.1, r.2)
    else ([], s)
def netsF (l : List Int) : Nat → Nat × Int → List Int × Nat × Int
  | 0, s => ([], s)
  | n + 1, s => if s.2 = 0 then ((rN l s).1 :: (netsF l n (rN l s).2).1, (netsF l n (rN l s).2).2) else ([], s)
/-- the message, the error's number, the reader's state behind it -/
def fromF (l : List Int) (s : Nat × Int) : S28 × Int × Nat × Int :=
  let k := rI l 0 1073741824 s
  if k.2.2 = 0 ∧ (k.1 < 1 ∨ k.1 > 16) then (z28, 110, k.2)
  else
    let a := rI l 0 1073741824 k.2
    let b := rI l 0 1073741824 a.2
    let c := rI l 0 1073741824 b.2
    let d := rI l 0 1073741824 c.2
    let f := rI l 0 1073741824 d.2
    let h := rI l 0 1073741824 f.2
    let am := rN l h.2
    let ye := rB l am.2
    let ln := rI l 0 1024 ye.2
    let ls := linesF l ln.1.toNat ln.2
    let nn := rI l 0 8 ls.2
    let ns := netsF l nn.1.toNat nn.2
    if ns.2.2 = 0 then (⟨k.1, ⟨a.1, b.1⟩, c.1, d.1, f.1, h.1, am.1, ye.1, ls.1, ns.1⟩, 0, ns.2) else (z28, ns.2.2, ns.2)
end Go.Proofs.Ytgmfafmefafiiaa.Pure.Msg
