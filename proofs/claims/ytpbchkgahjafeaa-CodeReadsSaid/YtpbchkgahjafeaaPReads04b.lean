/-
  Whatever is read, the document's answer and the code's go together.
-/
import Derived.Test.YtpbchkgahjafeaaPReads04
import Derived.Test.YtpbchkgahjafeaaOBytes
namespace Go.Proofs.Ytpbchkgahjafeaa.Pure.Code
open Go.RowKit Go.Proofs.Ytpbchkgahjafeaa.M Go.Proofs.YtpbchkgahjafeaaW.PrintWords Go.Proofs.YtpbchkgahjafeaaW.PrintLast Go.Proofs.YtpbchkgahjafeaaW.PrintMore Go.Proofs.Ytpbchkgahjafeaa.Pure.Bits
theorem scan_le : ∀ (s : List Int) (i u : Nat), (scan s i u).1 ≤ s.length := by
  intro s
  induction s with
  | nil => intro i u; simp [scan]
  | cons x s ih =>
    intro i u
    simp only [scan, List.length_cons]
    split
    · simp
    · split
      · simp
      · have := ih (i + 1) (u + (x % 128).toNat * 128 ^ i)
        simp only
        omega
/-- what the code and the document have in common behind a step -/
structure Together (l : List Int) (a' : Nat) (e' ra' : Int) : Prop where
  le : a' ≤ l.length
  at_ : e' = 0 → ra' = (a' : Int)
theorem num_pair {l : List Int} (hb : Bytes l) (hl : l.length < 4611686018427387904) {a : Nat} {e ra : Int} (ht : Together l a e ra) :
    ∃ (n : Int) (a' : Nat) (e' ra' : Int), Ev (fun k => code_Reader_Num.f k l (a : Int) e) (n, (a' : Int), e') ∧ Ev (fun k => contraref04_Number.f k (strOfNums l) ra e) (strOfNums l, ra', e', n) ∧ Together l a' e' ra' ∧ (e' ≠ 0 → n = 0) := by
  by_cases he : e = 0
  · subst he
    rw [ht.at_ rfl]
    have h2 := ref_number hb hl ht.le
    unfold numRes at h2
    refine ⟨_, _, _, _, rd_num_ev hl hb ht.le, h2, ⟨?_, fun h => if_pos h⟩, rdNum_bad⟩
    unfold rdNum
    have := scan_le (l.drop a) 0 0
    rw [List.length_drop] at this
    have := ht.le
    simp only
    omega
  · refine ⟨0, a, e, ra, rd_num_bad he, ?_, ht, fun _ => rfl⟩
    unfold contraref04_Number.f
    exact Ev.neg he (Ev.now _)
theorem int_pair {l : List Int} (hb : Bytes l) (hl : l.length < 4611686018427387904) {a : Nat} {e ra : Int} (ht : Together l a e ra) (lo hi : Int) :
    ∃ (n : Int) (a' : Nat) (e' ra' : Int), Ev (fun k => code_Reader_Int.f k l (a : Int) e lo hi) (n, (a' : Int), e') ∧ Ev (fun k => contraref04_Int.f k (strOfNums l) ra e lo hi) (strOfNums l, ra', e', n) ∧ Together l a' e' ra' ∧ (e' = 0 → lo ≤ n ∧ n ≤ hi) ∧ (e' ≠ 0 → n = 0) := by
  obtain ⟨n, a', e', ra', h1, h2, h3, h4⟩ := num_pair hb hl ht
  unfold code_Reader_Int.f contraref04_Int.f
  by_cases he : e' = 0
  · by_cases hr : lo ≤ n ∧ n ≤ hi
    · refine ⟨n, a', e', ra', Ev.bind h1 ?_, Ev.bind h2 ?_, h3, fun _ => hr, h4⟩
      · refine Ev.pos he (Ev.neg (show ¬ n < lo by omega) ?_)
        show Ev (fun k => code_Reader_Int.j0 k n (decide (n > hi)) l (a' : Int) e') _
        rw [decide_eq_false (show ¬ n > hi by omega)]
        refine Ev.up ?_
        simp only [code_Reader_Int.j0]
        exact Ev.neg (by decide) (Ev.pos he (Ev.now _))
      · refine Ev.pos he (Ev.neg (show ¬ n < lo by omega) ?_)
        show Ev (fun k => contraref04_Int.j0 k n (decide (n > hi)) (strOfNums l) ra' e') _
        rw [decide_eq_false (show ¬ n > hi by omega)]
        refine Ev.up ?_
        simp only [contraref04_Int.j0]
        exact Ev.neg (by decide) (Ev.pos he (Ev.now _))
    · refine ⟨0, a', 1, ra', Ev.bind h1 ?_, Ev.bind h2 ?_, ⟨h3.le, fun h => absurd h (by decide)⟩, fun h => absurd h (by decide), fun _ => rfl⟩
      · have bad : ∀ b : Bool, b = true → Ev (fun k => code_Reader_Int.j0 k n b l (a' : Int) e') (0, (a' : Int), 1) := by
          intro b hb
          refine Ev.up ?_
          simp only [code_Reader_Int.j0]
          refine Ev.pos hb ?_
          unfold code_Reader_fail.f
          rw [if_pos he]
          exact Ev.let_ (Ev.neg (show ¬ (1 : Int) = 0 by decide) (Ev.now _))
        refine Ev.pos he ?_
        by_cases hlo : n < lo
        · exact Ev.pos hlo (bad true rfl)
        · exact Ev.neg hlo (bad _ (decide_eq_true (show n > hi by omega)))
      · have bad : ∀ b : Bool, b = true → Ev (fun k => contraref04_Int.j0 k n b (strOfNums l) ra' e') (strOfNums l, ra', 1, 0) := by
          intro b hb
          refine Ev.up ?_
          simp only [contraref04_Int.j0]
          exact Ev.pos hb (Ev.neg (by decide) (Ev.now _))
        refine Ev.pos he ?_
        by_cases hlo : n < lo
        · exact Ev.pos hlo (bad true rfl)
        · exact Ev.neg hlo (bad _ (decide_eq_true (show n > hi by omega)))
  · refine ⟨0, a', e', ra', Ev.bind h1 ?_, Ev.bind h2 ?_, h3, fun h => absurd h he, fun _ => rfl⟩
    · refine Ev.neg he (Ev.up ?_)
      simp only [code_Reader_Int.j0]
      exact Ev.neg (by decide) (Ev.neg he (Ev.now _))
    · refine Ev.neg he (Ev.up ?_)
      simp only [contraref04_Int.j0]
      exact Ev.neg (by decide) (Ev.neg he (Ev.now _))
theorem bool_pair {l : List Int} (hb : Bytes l) (hl : l.length < 4611686018427387904) {a : Nat} {e ra : Int} (ht : Together l a e ra) :
    ∃ (y : Bool) (a' : Nat) (e' ra' : Int), code_Reader_Bool.f l (a : Int) e = some (y, (a' : Int), e') ∧ contraref04_Truth.f (strOfNums l) ra e = some (strOfNums l, ra', e', y) ∧ Together l a' e' ra' := by
  have hsz : ((strOfNums l).size : Int) = (l.length : Int) := by rw [str_size]
  by_cases he : e = 0
  · subst he
    rw [ht.at_ rfl]
    have hle := ht.le
    unfold code_Reader_Bool.f contraref04_Truth.f
    rw [if_pos rfl, hsz]
    by_cases hlt : a < l.length
    · rw [if_neg (by omega), if_pos (by omega), if_pos (by omega), bt_str hb hlt, byte_at hlt hl, Option.bind_some]
      have e1 : wrap64 ((a : Int) + 1) = ((a + 1 : Nat) : Int) := by unfold wrap64; omega
      rw [e1]
      by_cases hx : l[a] > 1
      · refine ⟨_, a + 1, 41, _, by rw [if_pos hx]; rfl, by rw [if_pos hx], ⟨by omega, fun h => absurd h (by decide)⟩⟩
      · exact ⟨_, a + 1, 0, _, by rw [if_neg hx], by rw [if_neg hx], ⟨by omega, fun _ => rfl⟩⟩
    · rw [if_pos (by omega)]
      refine ⟨false, a, 40, (a : Int), ?_, rfl, ⟨hle, fun h => absurd h (by decide)⟩⟩
      rw [show a = l.length by omega, byte_end]
      rfl
  · refine ⟨false, a, e, ra, ?_, by unfold contraref04_Truth.f; rw [if_neg he], ht⟩
    unfold code_Reader_Bool.f code_Reader_byte.f
    rw [if_neg he]
    rfl
theorem end_pair {l : List Int} (hl : l.length < 4611686018427387904) {a : Nat} {e ra : Int} (ht : Together l a e ra) :
    ∃ e' : Int, code_Reader_End.f l (a : Int) e = some (e', (a : Int), e') ∧ contraref04_End.f (strOfNums l) ra e = some (strOfNums l, ra, e') ∧ (e' = 0 → a = l.length) := by
  have hsz : ((strOfNums l).size : Int) = (l.length : Int) := by rw [str_size]
  have hle := ht.le
  rw [end_f l a e ht.le hl]
  unfold contraref04_End.f
  by_cases he : e = 0
  · subst he
    rw [ht.at_ rfl, if_pos rfl, hsz]
    by_cases hlt : a < l.length
    · exact ⟨41, by rw [if_pos ⟨hlt, rfl⟩], by rw [if_pos (by omega)], fun h => absurd h (by decide)⟩
    · exact ⟨0, by rw [if_neg (fun h => hlt h.1)], by rw [if_neg (by omega)], fun _ => by omega⟩
  · exact ⟨e, by rw [if_neg (fun h => he h.2)], by rw [if_neg he], fun h => absurd h he⟩
/-- a list: the document's answer, and the code's contract -/
theorem list_pair {l : List Int} (hb : Bytes l) (hl : l.length < 140737488355328) {a : Nat} {e ra : Int} (ht : Together l a e ra) :
    ∃ (t : List Int) (a' : Nat) (e' ra' : Int), Ev (fun k => contraref04_List.f k (strOfNums l) ra e) (strOfNums l, ra', e', strOfNums t) ∧ Together l a' e' ra' ∧
      ∀ (lo : Nat) (w : World) (g : Nat), IsR lo w g l (a : Int) e → Calls Try.prog 20 #[.pointer (some ⟨g, 0, none⟩)] w fun x w' => ∃ v, x = .returned v ∧ Kd.R (Kd.int .u8) 5 w' w.heap.size (fun _ => True) v t ∧ IsR 0 w' g l (a' : Int) e' ∧ Below g w w' ∧ KeepBut w w' g none := by
  have hsz : ((strOfNums l).size : Int) = (l.length : Int) := by rw [str_size]
  obtain ⟨n, a', e', ra', h1, h2, h3, h4, h5⟩ := int_pair hb (by omega) ht 0 16384
  obtain ⟨k, hk⟩ := h1.rounds
  unfold contraref04_List.f
  have hle := h3.le
  by_cases he : e' = 0
  · subst he
    have hra := h3.at_ rfl
    subst hra
    have h04 := h4 rfl
    have e1 : wrap64 (((strOfNums l).size : Int) - (a' : Int)) = (l.length : Int) - (a' : Int) := by rw [hsz]; unfold wrap64; omega
    by_cases hs : (l.length : Int) - (a' : Int) < n
    · refine ⟨[], a', 40, (a' : Int), Ev.bind h2 (Ev.pos rfl ?_), ⟨hle, fun h => absurd h (by decide)⟩, fun lo w g hi => (rd_Bytes_short hi hk hs hle hl).mono fun x w' ⟨p1, p2, p3, p4⟩ => ⟨_, p1, Kd.R_nil _ _ _ _ _, p2, p3, p4⟩⟩
      show Ev (fun k => contraref04_List.j0 k n (decide (n > wrap64 (((strOfNums l).size : Int) - (a' : Int)))) (strOfNums l) (a' : Int) 0) _
      rw [e1, decide_eq_true (show n > (l.length : Int) - (a' : Int) by omega)]
      refine Ev.up ?_
      simp only [contraref04_List.j0]
      exact Ev.pos trivial (Ev.neg (by decide) (Ev.some_ rfl))
    · obtain ⟨m, rfl⟩ := Int.eq_ofNat_of_zero_le h04.1
      have e2 : wrap64 ((a' : Int) + (m : Int)) = ((a' + m : Nat) : Int) := by unfold wrap64; omega
      refine ⟨(l.drop a').take m, a' + m, 0, ((a' + m : Nat) : Int), Ev.bind h2 (Ev.pos rfl ?_), ⟨by omega, fun _ => rfl⟩, fun lo w g hi => (rd_Bytes_ok hi hk h04.1 (by omega) hl).mono fun x w' ⟨v, p1, p2, p3, p4, p5⟩ => ⟨v, p1, p2, p3, p4, p5⟩⟩
      show Ev (fun k => contraref04_List.j0 k (m : Int) (decide ((m : Int) > wrap64 (((strOfNums l).size : Int) - (a' : Int)))) (strOfNums l) (a' : Int) 0) _
      rw [e1, decide_eq_false (show ¬ (m : Int) > (l.length : Int) - (a' : Int) by omega)]
      refine Ev.up ?_
      simp only [contraref04_List.j0]
      refine Ev.neg (by decide) (Ev.pos trivial (Ev.pos (by omega) ?_))
      rw [e2]
      refine Ev.pos (by omega) (Ev.pos (by rw [hsz]; omega) (Ev.some_ ?_))
      have e3 : (strOfNums l).extract ((a' : Int)).toNat (((a' + m : Nat) : Int)).toNat = strOfNums ((l.drop a').take m) := by
        apply bs_inj
        have hbs : ∀ q : List Int, (∀ x ∈ q, x ∈ l) → bs (strOfNums q) = q := fun q hq => bs_str q (fun x hx => hb x (hq x hx))
        rw [bs_extract, hbs l (fun _ h => h), hbs _ (fun x hx => List.mem_of_mem_drop (List.mem_of_mem_take hx)), Int.toNat_natCast, Int.toNat_natCast, List.drop_take, Nat.add_sub_cancel_left]
      rw [e3]
  · refine ⟨[], a', e', ra', Ev.bind h2 (Ev.neg he ?_), h3, fun lo w g hi => ?_⟩
    · refine Ev.up ?_
      simp only [contraref04_List.j0]
      exact Ev.neg (by decide) (Ev.neg he (Ev.some_ rfl))
    · rw [h5 he] at hk
      exact (rd_Bytes_err hi hk he).mono fun x w' ⟨p1, p2, p3, p4⟩ => ⟨_, p1, Kd.R_nil _ _ _ _ _, p2, p3, p4⟩
end Go.Proofs.Ytpbchkgahjafeaa.Pure.Code
