/-
  A message's bytes, plainly.
-/
import Derived.Test.YtgmfafmefafiiaaPCode2R11
import Derived.Test.YtgmfafmefafiiaaMx0
namespace Go.Proofs.Ytgmfafmefafiiaa.Pure.Msg
open Go.RowKit Go.Proofs.Ytgmfafmefafiiaa.M Go.Proofs.YtgmfafmefafiiaaW.PrintWords Go.Proofs.YtgmfafmefafiiaaW.PrintLast Go.Proofs.YtgmfafmefafiiaaW.PrintMore Go.Proofs.Ytgmfafmefafiiaa.Pure.Code
set_option linter.unusedVariables false
def small (n : Int) : Prop := 0 ≤ n ∧ n ≤ 1073741824
instance (n : Int) : Decidable (small n) := inferInstanceAs (Decidable (_ ∧ _))
def head (m : S28) : List Int := [m.f0, m.f1.f0, m.f1.f1, m.f2, m.f3, m.f4, m.f5]
def menc (l : List Int) : List Int := l.flatMap enc
def b01 (b : Bool) : Int := if b = true then 1 else 0
def lineL (x : S50) : List Int := [x.f0.f0, x.f0.f1, x.f1, x.f2]
def lineE (x : S50) : List Int := menc (lineL x)
def linesE (l : List S50) : List Int := l.flatMap lineE
def smallL (x : S50) : Prop := small x.f0.f0 ∧ small x.f0.f1 ∧ small x.f1
instance (x : S50) : Decidable (smallL x) := inferInstanceAs (Decidable (_ ∧ _))
def body (m : S28) : List Int := menc (head m) ++ enc m.f6 ++ [b01 m.f7] ++ enc (m.f8.length : Int) ++ linesE m.f8 ++ enc (m.f9.length : Int) ++ menc m.f9
def wcode (m : S28) : Int := if m.f0 < 1 ∨ m.f0 > 16 then 110 else if m.f8.length > 1024 ∨ m.f9.length > 8 then 2 else if (∀ x ∈ head m, small x) ∧ ∀ x ∈ m.f8, smallL x then 0 else 1
def Wide (m : S28) : Prop := (∀ x ∈ head m, I64 x) ∧ I64 m.f6 ∧ (∀ x ∈ m.f8, ∀ y ∈ lineL x, I64 y) ∧ ∀ x ∈ m.f9, I64 x
theorem menc_app (a b : List Int) : menc (a ++ b) = menc a ++ menc b := List.flatMap_append
theorem menc_one (x : Int) : menc [x] = enc x := by simp [menc]
theorem menc_next {l : List Int} {i : Nat} (h : i < l.length) : menc (l.take (i + 1)) = menc (l.take i) ++ enc l[i] := by
  rw [← List.take_append_getElem h, menc_app, menc_one]
theorem linesE_next {l : List S50} {i : Nat} (h : i < l.length) : linesE (l.take (i + 1)) = linesE (l.take i) ++ lineE l[i] := by
  unfold linesE
  rw [← List.take_append_getElem h, List.flatMap_append, List.flatMap_singleton]
theorem menc_len : ∀ (l : List Int), (∀ x ∈ l, I64 x) → (menc l).length ≤ 10 * l.length := by
  intro l
  induction l with
  | nil => intro _; simp [menc]
  | cons x l ih =>
    intro h
    have h1 := ih (fun y hy => h y (by simp [hy]))
    have h2 := enc_len (h x (by simp))
    have : menc (x :: l) = enc x ++ menc l := rfl
    rw [this, List.length_append, List.length_cons]; omega
theorem linesE_len : ∀ (l : List S50), (∀ x ∈ l, ∀ y ∈ lineL x, I64 y) → (linesE l).length ≤ 40 * l.length := by
  intro l
  induction l with
  | nil => intro _; simp [linesE]
  | cons x l ih =>
    intro h
    have h1 := ih (fun y hy => h y (by simp [hy]))
    have h2 := menc_len (lineL x) (h x (by simp))
    have : linesE (x :: l) = lineE x ++ linesE l := rfl
    rw [this, List.length_append, List.length_cons]
    have h3 : (lineE x).length = (menc (lineL x)).length := rfl
    have h4 : (lineL x).length = 4 := rfl
    omega
/-- bytes behind others -/
theorem num_at (l : List Int) (n : Int) (h : I64 n) (hl : l.length ≤ 1000000) : ∃ k, code_Num.f k l n = some (l ++ enc n) := (num_ev l n h (by omega)).rounds
theorem bool_at (l : List Int) (b : Bool) (hl : l.length ≤ 1000000) : code_Bool.f l b = some (l ++ [b01 b]) := by
  unfold code_Bool.f
  cases b
  · rw [if_neg (by decide), if_pos (by omega)]; rfl
  · rw [if_pos rfl, if_pos (by omega)]; rfl
end Go.Proofs.Ytgmfafmefafiiaa.Pure.Msg
