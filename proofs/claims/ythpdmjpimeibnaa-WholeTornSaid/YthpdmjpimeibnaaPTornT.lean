/-
  A log of numbers of which the last record is torn: what a disk is behind the crash, what is opened, and how each number is read.
-/
import Derived.Test.YthpdmjpimeibnaaPScan
import Derived.Test.YthpdmjpimeibnaaOOpen
import Derived.Test.YthpdmjpimeibnaaPCode2R6
namespace Go.Proofs.Ythpdmjpimeibnaa.Pure.Torn
open Go.RowKit Go.Proofs.Ythpdmjpimeibnaa.M Go.Proofs.YthpdmjpimeibnaaW.PrintWords Go.Proofs.YthpdmjpimeibnaaW.PrintLast Go.Proofs.YthpdmjpimeibnaaW.PrintMore
open Go.Proofs.Ythpdmjpimeibnaa.Pure.Frame (rec_ all rec_length)
set_option linter.unusedVariables false
set_option linter.unusedSimpArgs false
theorem crash_torn (R : Int) (p r : List Int) (hr : r ≠ []) (keep turn : Int) : DS.crash ⟨R, p, p ++ r, false, false, -1⟩ keep turn = ⟨R, p, p ++ Frame.marLast (r.take (max 0 (min keep (r.length : Int))).toNat) turn, false, true, -1⟩ := by
  obtain ⟨c, hc⟩ : ∃ c, c = (max 0 (min keep (r.length : Int))).toNat := ⟨_, rfl⟩
  have hcr : c ≤ r.length := by rw [hc]; omega
  have ht : DS.torn ⟨R, p, p ++ r, false, false, -1⟩ keep = p.length + c := by
    unfold DS.torn
    simp only [List.length_append]
    rw [hc]; congr 3; omega
  unfold DS.crash
  rw [if_neg (by simp), ht, ← hc]
  simp only
  have htk : (p ++ r).take (p.length + c) = p ++ r.take c := by rw [List.take_append, List.take_of_length_le (by omega), Nat.add_sub_cancel_left]
  rw [htk]
  by_cases h0 : c = 0
  · rw [if_neg (by omega), h0]
    simp [Frame.marLast]
  · rw [if_pos (by omega)]
    have hne : r.take c ≠ [] := by
      intro e
      have := congrArg List.length e
      rw [List.length_take, List.length_nil] at this
      omega
    have hl : (p ++ r.take c).length = p.length + c := by rw [List.length_append, List.length_take]; omega
    have hm := Frame.marLast_append p (r.take c) turn hne
    rw [← hm]
    unfold Frame.marLast
    rw [if_neg (by simp [hne]), hl, Frame.rd_get]
    rfl
theorem torn_open {pre : List (List Int)} {last : List Int} (hp : ∀ d ∈ pre, Frame.Bytes d ∧ d.length ≤ 16384) (hl : Frame.Bytes last ∧ last.length ≤ 16384) (R keep turn : Int) (ht : Crc.Byte turn) :
    ∃ X, DS.crash ⟨R, all pre, all (pre ++ [last]), false, false, -1⟩ keep turn = ⟨R, all pre, X, false, true, -1⟩ ∧ Frame.Bytes X ∧ X.length ≤ (all (pre ++ [last])).length ∧
      (((rec_ last).length : Int) ≤ keep ∧ turn = 0 → Frame.scan X.length X = (pre ++ [last], ((all (pre ++ [last])).length : Int)) ∧ X.take (all (pre ++ [last])).length = all (pre ++ [last])) ∧
      (¬ (((rec_ last).length : Int) ≤ keep ∧ turn = 0) → Frame.scan X.length X = (pre, ((all pre).length : Int)) ∧ X.take (all pre).length = all pre) := by
  have hall : all (pre ++ [last]) = all pre ++ rec_ last := by rw [Frame.all_append]; simp [all]
  have hrl := rec_length last
  have hne : rec_ last ≠ [] := fun e => by rw [e, List.length_nil] at hrl; omega
  have hrb := Frame.rec_bytes hl.1
  have hpb : Frame.Bytes (all pre) := Frame.all_bytes (fun d hd => (hp d hd).1)
  rw [hall]
  obtain ⟨c, hc⟩ : ∃ c, c = (max 0 (min keep ((rec_ last).length : Int))).toNat := ⟨_, rfl⟩
  have hcr : c ≤ (rec_ last).length := by rw [hc]; omega
  refine ⟨all pre ++ Frame.marLast ((rec_ last).take c) turn, by rw [crash_torn R _ _ hne, hc], hpb.append (Frame.marLast_bytes (hrb.take c) ht), ?_, fun h => ?_, fun h => ?_⟩
  · rw [List.length_append, List.length_append, Frame.marLast_length, List.length_take]; omega
  · have hcc : c = (rec_ last).length := by rw [hc]; omega
    rw [hcc, List.take_length, h.2, Frame.marLast_zero hrb, ← hall]
    refine ⟨?_, List.take_length⟩
    have := Frame.scan_all (pre ++ [last]) (all (pre ++ [last])).length [] (Frame.all_ge _) (fun d hd => (List.mem_append.mp hd).elim (hp d) (fun q => by rw [List.mem_singleton.mp q]; exact hl)) (.inl rfl)
    rwa [List.append_nil] at this
  · have hst := Frame.stops_torn hl.1 hl.2 c hcr ht (by
      by_cases hcc : c < (rec_ last).length
      · exact .inl hcc
      · exact .inr (fun e => h ⟨by omega, e⟩))
    refine ⟨?_, by rw [List.take_left]⟩
    exact Frame.scan_all pre _ _ (by rw [List.length_append]; have := Frame.all_ge pre; omega) hp hst
theorem opened_of {R : Int} {X s : List Int} {gs : List (List Int)} (h1 : Frame.scan X.length X = (gs, ((all gs).length : Int))) (h2 : X.take (all gs).length = all gs) : DS.opened ⟨R, s, X, false, false, -1⟩ = ⟨R, all gs, all gs, false, false, -1⟩ := by
  unfold DS.opened
  simp only
  rw [h1]
  simp only
  rw [Int.toNat_natCast, h2]
theorem opened_all {R : Int} {s : List Int} {gs : List (List Int)} (hg : ∀ d ∈ gs, Frame.Bytes d ∧ d.length ≤ 16384) : Frame.scan (all gs).length (all gs) = (gs, ((all gs).length : Int)) ∧ DS.opened ⟨R, s, all gs, false, false, -1⟩ = ⟨R, all gs, all gs, false, false, -1⟩ := by
  have h := Frame.scan_all gs (all gs).length [] (Frame.all_ge gs) hg (.inl rfl)
  rw [List.append_nil] at h
  exact ⟨h, opened_of h (List.take_length)⟩
/-- a number's bytes -/
theorem enc_ok {n : Int} (h : Code.I64 n) : Frame.Bytes (Code.enc n) ∧ (Code.enc n).length ≤ 10 := ⟨Code.enc_bytes n, Code.enc_len h⟩
theorem all_len : ∀ (l : List Int), (∀ x ∈ l, Code.I64 x) → (all (l.map Code.enc)).length ≤ 18 * l.length := by
  intro l
  induction l with
  | nil => intro _; simp [all]
  | cons x l ih =>
    intro h
    have h1 := ih (fun y hy => h y (by simp [hy]))
    have h2 := (enc_ok (h x (by simp))).2
    rw [List.map_cons, Frame.all_cons, List.length_append, rec_length, List.length_cons]
    omega
theorem take_next {l : List Int} {i : Nat} (h : i < l.length) : all ((l.take (i + 1)).map Code.enc) = all ((l.take i).map Code.enc) ++ rec_ (Code.enc (rd l (i : Int))) := by
  have e : l.take (i + 1) = l.take i ++ [rd l (i : Int)] := by rw [rd_nat h, List.take_append_getElem h]
  rw [e, List.map_append, Frame.all_append]
  simp [all]
/-- a number is read, and that is all -/
theorem read_num {n : Int} (h : Code.I64 n) : Ev (fun k => code_Reader_Num.f k (Code.enc n) 0 0) (n, ((Code.enc n).length : Int), 0) ∧ code_Reader_End.f (Code.enc n) ((Code.enc n).length : Int) 0 = some (0, ((Code.enc n).length : Int), 0) := by
  have hl := (enc_ok h).2
  have h1 := Code.rd_num_ev (l := Code.enc n) (by omega) (enc_ok h).1 (a := 0) (Nat.zero_le _)
  rw [Code.rdNum_enc h (Code.enc n) [] 0 (by simp)] at h1
  refine ⟨Ev.eq h1 (by simp), ?_⟩
  have h2 := Code.end_f (Code.enc n) (Code.enc n).length 0 (Nat.le_refl _) (by omega)
  rw [if_neg (by omega)] at h2
  exact h2
/-- the known check -/
theorem known : (Crc.crc 0#32 [49, 50, 51, 52, 53, 54, 55, 56, 57]).toNat = 3421780262 := by decide +kernel
end Go.Proofs.Ythpdmjpimeibnaa.Pure.Torn
