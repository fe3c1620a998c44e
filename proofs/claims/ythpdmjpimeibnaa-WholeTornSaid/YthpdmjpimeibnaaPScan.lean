/-
  What a scan of any bytes takes are whole records, and a scan of just these bytes takes the same.
-/
import Derived.Test.YthpdmjpimeibnaaPFrameR6
import Derived.Test.YthpdmjpimeibnaaPWal
namespace Go.Proofs.Ythpdmjpimeibnaa.Pure.Frame
open Go.RowKit Go.Proofs.Ythpdmjpimeibnaa.M Go.Proofs.YthpdmjpimeibnaaW.PrintWords Go.Proofs.YthpdmjpimeibnaaW.PrintLast Go.Proofs.YthpdmjpimeibnaaW.PrintMore
theorem scan_parts : ∀ (k : Nat) (l : List Int), Bytes l → (∀ d ∈ (scan k l).1, Bytes d ∧ d.length ≤ 16384) ∧ (scan k l).2 = ((all (scan k l).1).length : Int) ∧ ∃ m, l = all (scan k l).1 ++ m := by
  intro k
  induction k with
  | zero => intro l _; exact ⟨by simp [scan], by simp [scan, all], l, by simp [scan, all]⟩
  | succ k ih =>
    intro l hb
    unfold scan
    by_cases h0 : l.length = 0
    · rw [if_pos h0]
      exact ⟨by simp, by simp [all], l, by simp [all]⟩
    rw [if_neg h0]
    by_cases h1 : (read l).2.2 = 0
    · rw [if_pos h1]
      obtain ⟨d, n, e, hr⟩ : ∃ d n e, read l = (d, n, e) := ⟨_, _, _, rfl⟩
      rw [hr] at h1 ⊢
      dsimp only at h1 ⊢
      subst h1
      obtain ⟨q1, q2, q3, m, q4⟩ := read_ok hb hr
      obtain ⟨i1, i2, m2, i3⟩ := ih (l.drop n.toNat) (hb.drop _)
      have hrl := rec_length d
      have hdrop : l.drop n.toNat = m := by
        have : n.toNat = (rec_ d).length := by rw [hrl]; omega
        rw [q4, this, List.drop_left]
      refine ⟨fun x hx => ?_, ?_, m2, ?_⟩
      · rcases List.mem_cons.mp hx with rfl | hx
        · exact ⟨q1, q2⟩
        · exact i1 x hx
      · rw [i2, all_cons, List.length_append, hrl]; omega
      · rw [all_cons, List.append_assoc, ← i3, hdrop]; exact q4
    · rw [if_neg h1]
      exact ⟨by simp, by simp [all], l, by simp [all]⟩
theorem all_ge : ∀ (ds : List (List Int)), ds.length ≤ (all ds).length := by
  intro ds
  induction ds with
  | nil => simp
  | cons d ds ih => rw [all_cons, List.length_append, rec_length, List.length_cons]; omega
theorem scan_again {l t : List Int} {ds : List (List Int)} {n : Int} (hb : Bytes l) (hs : scan l.length l = (ds, n)) (ht : t = l.take n.toNat) :
    scan t.length t = (ds, n) ∧ (t.length : Int) = n ∧ Bytes t ∧ t.length ≤ l.length := by
  obtain ⟨h1, h2, m, h3⟩ := scan_parts l.length l hb
  rw [hs] at h1 h2 h3
  dsimp only at h1 h2 h3
  have he : t = all ds := by rw [ht, h2, Int.toNat_natCast, h3, List.take_left]
  have hsc := scan_all ds t.length [] (by rw [he]; exact all_ge ds) h1 (.inl rfl)
  rw [List.append_nil, ← he] at hsc
  refine ⟨by rw [hsc, h2, he], by rw [h2, he], by rw [ht]; exact hb.take _, by rw [ht]; simp only [List.length_take]; omega⟩
end Go.Proofs.Ythpdmjpimeibnaa.Pure.Frame
