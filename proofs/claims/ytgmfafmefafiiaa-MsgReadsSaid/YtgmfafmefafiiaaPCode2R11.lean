/-
  A number from one to another, what is left, the end: as the program tells them; and the fixed beginning of each statement.
-/
import Derived.Test.YtgmfafmefafiiaaPCodeR11
namespace Go.Proofs.Ytgmfafmefafiiaa.Pure.Code
open Go.RowKit Go.Proofs.Ytgmfafmefafiiaa.M Go.Proofs.YtgmfafmefafiiaaW.PrintWords Go.Proofs.YtgmfafmefafiiaaW.PrintLast Go.Proofs.YtgmfafmefafiiaaW.PrintMore Go.Proofs.Ytgmfafmefafiiaa.Pure.Bits
def inRange (v lo hi : Int) : Prop := lo ≤ v ∧ v ≤ hi
instance (v lo hi : Int) : Decidable (inRange v lo hi) := inferInstanceAs (Decidable (_ ∧ _))
/-- what a bounded number's reading comes to -/
def rdInt (l : List Int) (a : Nat) (lo hi : Int) : Int × Nat × Int :=
  if (rdNum l a).2.2 = 0 then (if inRange (rdNum l a).1 lo hi then rdNum l a else (0, (rdNum l a).2.1, 1)) else (0, (rdNum l a).2.1, (rdNum l a).2.2)
theorem rdNum_bad {l : List Int} {a : Nat} (h : (rdNum l a).2.2 ≠ 0) : (rdNum l a).1 = 0 := by
  unfold rdNum at h ⊢
  simp only at h ⊢
  rw [if_neg h]
theorem rd_int_ev {l : List Int} (hl : l.length < 4611686018427387904) (hb : Bytes l) {a : Nat} (ha : a ≤ l.length) (lo hi : Int) :
    Ev (fun k => code_Reader_Int.f k l (a : Int) 0 lo hi) ((rdInt l a lo hi).1, ((rdInt l a lo hi).2.1 : Int), (rdInt l a lo hi).2.2) := by
  unfold code_Reader_Int.f rdInt
  refine Ev.bind (rd_num_ev hl hb ha) ?_
  dsimp only
  by_cases h0 : (rdNum l a).2.2 = 0
  · rw [if_pos h0]
    refine Ev.pos h0 ?_
    have bad : ∀ x24 : Bool, x24 = true → ¬ inRange (rdNum l a).1 lo hi → Ev (fun k => code_Reader_Int.j0 k (rdNum l a).1 x24 l ((rdNum l a).2.1 : Int) (rdNum l a).2.2) ((if inRange (rdNum l a).1 lo hi then rdNum l a else (0, (rdNum l a).2.1, 1)).1, ((if inRange (rdNum l a).1 lo hi then rdNum l a else (0, (rdNum l a).2.1, 1)).2.1 : Int), (if inRange (rdNum l a).1 lo hi then rdNum l a else (0, (rdNum l a).2.1, 1)).2.2) := by
      intro x hx hr
      subst hx
      rw [if_neg hr]
      refine Ev.up ?_
      simp only [code_Reader_Int.j0]
      refine Ev.pos trivial ?_
      simp only [code_Reader_fail.f, if_pos h0]
      exact Ev.let_ (Ev.neg (by simp) (Ev.now _))
    by_cases h1 : (rdNum l a).1 < lo
    · exact Ev.pos h1 (bad true rfl (by unfold inRange; omega))
    · refine Ev.neg h1 ?_
      by_cases h2 : (rdNum l a).1 > hi
      · exact bad _ (decide_eq_true h2) (by unfold inRange; omega)
      · rw [decide_eq_false h2, if_pos (show inRange _ lo hi by unfold inRange; omega)]
        refine Ev.up ?_
        simp only [code_Reader_Int.j0]
        exact Ev.neg (by simp) (Ev.pos h0 (Ev.now _))
  · rw [if_neg h0]
    refine Ev.neg h0 (Ev.up ?_)
    simp only [code_Reader_Int.j0]
    exact Ev.neg (by simp) (Ev.neg h0 (Ev.now _))
theorem rdNum_enc {n : Int} (h : I64 n) (l rest : List Int) (a : Nat) (hd : l.drop a = enc n ++ rest) : rdNum l a = (n, a + (enc n).length, 0) := by
  unfold rdNum
  rw [hd, scan_enc h]
  simp only [if_true]
  rw [show unzig (zig n) = n from unzig_zig n]
theorem left_f (l : List Int) (a : Nat) (e : Int) (ha : a ≤ l.length) (hl : l.length < 4611686018427387904) : code_Reader_Left.f l (a : Int) e = some (((l.length - a : Nat) : Int), (a : Int), e) := by
  unfold code_Reader_Left.f
  rw [show wrap64 ((l.length : Int) - (a : Int)) = ((l.length - a : Nat) : Int) by unfold wrap64; omega]
theorem end_f (l : List Int) (a : Nat) (e : Int) (ha : a ≤ l.length) (hl : l.length < 4611686018427387904) :
    code_Reader_End.f l (a : Int) e = some (if a < l.length ∧ e = 0 then 41 else e, (a : Int), if a < l.length ∧ e = 0 then 41 else e) := by
  unfold code_Reader_End.f
  rw [left_f l a e ha hl, Option.bind_some]
  dsimp only
  by_cases h : a < l.length
  · rw [if_pos (by omega)]
    unfold code_Reader_fail.f
    by_cases he : e = 0
    · rw [if_pos he, if_pos ⟨h, he⟩]; rfl
    · rw [if_neg he, if_neg (fun x => he x.2)]; rfl
  · rw [if_neg (by omega), if_neg (fun x => h x.1)]
theorem numB_bytes : ∀ u : Nat, Bytes (numB u) := by
  intro u
  induction u using Nat.strongRecOn with
  | _ u ih =>
    by_cases h : u > 127
    · rw [numB_big h]
      intro x hx
      rcases List.mem_cons.mp hx with rfl | hx
      · omega
      · exact ih _ (by omega) x hx
    · rw [numB_small h]
      intro x hx
      rw [List.mem_singleton] at hx
      omega
theorem enc_bytes (n : Int) : Bytes (enc n) := numB_bytes _
theorem enc_pos (n : Int) : 0 < (enc n).length := by
  unfold enc
  by_cases h : zig n > 127
  · rw [numB_big h]; simp
  · rw [numB_small h]; simp
theorem wf_i64 {n : Int} (h : (Lit.int .i64 n).wf = true) : I64 n := by
  simp [Lit.wf, IntKind.min, IntKind.max, IntKind.signed, IntKind.bits] at h
  exact h
end Go.Proofs.Ytgmfafmefafiiaa.Pure.Code
