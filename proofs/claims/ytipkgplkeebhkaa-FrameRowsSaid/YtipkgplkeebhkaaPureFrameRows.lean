/-
  Records written one behind the other are all read, in order, and nothing is left; with bytes behind them that are none, these are: for any lists of bytes (more than 20 records, one of more than 1000 bytes, or more than 7 bytes behind them, are let go by the statement itself).
-/
import Derived.Test.YtipkgplkeebhkaaRowFrameRows
import Derived.Test.YtipkgplkeebhkaaPFrame
namespace Go.Proofs.Ytipkgplkeebhkaa.Pure
open Go.RowKit Go.Proofs.Ytipkgplkeebhkaa.M Go.Proofs.YtipkgplkeebhkaaW.PrintWords Go.Proofs.YtipkgplkeebhkaaW.PrintLast Go.Proofs.YtipkgplkeebhkaaW.PrintMore
namespace Rows5
open _root_.Go.Proofs.Ytipkgplkeebhkaa.Pure.Frame
theorem rdL (ds : List (List Int)) (j : Nat) (h : j < ds.length) : rd_L3 ds (j : Int) = ds[j] := by
  unfold rd_L3
  rw [Int.toNat_natCast, List.getD_eq_getElem?_getD, List.getElem?_eq_getElem h]
  rfl
theorem all_le : ∀ (ds : List (List Int)), (∀ d ∈ ds, d.length ≤ 1000) → (all ds).length ≤ 1008 * ds.length
  | [], _ => by simp [all]
  | d :: ds, h => by
    have := all_le ds (fun x hx => h x (List.mem_cons_of_mem _ hx))
    have := h d List.mem_cons_self
    rw [all_cons, List.length_append, rec_length, List.length_cons]
    omega
theorem l1_ev (ds : List (List Int)) (hl : ds.length ≤ 20) (d : Nat) : ∀ i, i + d = ds.length → Ev (fun k => contralaw05_FrameRows.l1 k ds ds (ds.length : Int) (i : Int)) true := by
  induction d with
  | zero =>
    intro i hi
    refine Ev.up ?_
    simp only [contralaw05_FrameRows.l1]
    exact Ev.neg (by omega) (Ev.now _)
  | succ d ih =>
    intro i hi
    refine Ev.up ?_
    simp only [contralaw05_FrameRows.l1]
    refine Ev.pos (by omega) (Ev.pos (by omega) (Ev.pos (by omega) (Ev.pos (by omega) (Ev.pos trivial ?_))))
    rw [w64 (by omega) (by omega)]
    exact ih (i + 1) (by omega)
theorem l0_ev (ds : List (List Int)) (hb : ∀ d ∈ ds, Bytes d) (hl : ds.length ≤ 20) (m : List Int) (hm : Bytes m) (hm7 : m.length ≤ 7) (d : Nat) : ∀ i, i + d = ds.length → (∀ d ∈ ds.take i, d.length ≤ 1000) →
    Ev (fun k => contralaw05_FrameRows.l0 k ds m (all (ds.take i)) ds (ds.length : Int) (i : Int)) true := by
  induction d with
  | zero =>
    intro i hi h3
    have e : i = ds.length := by omega
    subst e
    rw [List.take_length] at h3 ⊢
    have hal := all_le ds h3
    refine Ev.up ?_
    simp only [contralaw05_FrameRows.l0]
    refine Ev.neg (by omega) (Ev.let_ (Ev.pos (by simp; omega) (Ev.let_ (Ev.pos (by simp; omega) ?_))))
    rw [List.nil_append]
    have hsc := scan_ev (all ds ++ m) ((all_bytes hb).append hm) (by rw [List.length_append]; omega) 134217728 0 [] (Nat.zero_le _) (by rw [List.length_append]; omega) (by decide)
    rw [List.drop_zero, scan_all ds _ m (by omega) (fun d hd => ⟨hb d hd, by have := h3 d hd; omega⟩) (stops_short (by omega))] at hsc
    refine Ev.bind (a := (ds, ((all ds).length : Int))) ?_ ?_
    · unfold frame_Scan.f
      refine Ev.eq hsc ?_
      simp
    · refine Ev.pos rfl (Ev.up ?_)
      simp only [contralaw05_FrameRows.j2]
      refine Ev.neg (by simp) ?_
      exact l1_ev ds hl ds.length 0 (by omega)
  | succ d ih =>
    intro i hi h3
    have hlt : i < ds.length := by omega
    refine Ev.up ?_
    simp only [contralaw05_FrameRows.l0]
    refine Ev.pos (by omega) (Ev.pos (by omega) (Ev.pos (by omega) ?_))
    rw [rdL ds i hlt]
    have hal := all_le (ds.take i) h3
    rw [List.length_take] at hal
    by_cases h1000 : (ds[i].length : Int) > 1000
    · by_cases hL : ds[i].length ≤ 16384
      · exact Ev.bind (append_ev (all (ds.take i)) ds[i] (hb _ (List.getElem_mem hlt)) hL (by omega)) (Ev.pos h1000 (Ev.now _))
      · exact Ev.bind (append_long (all (ds.take i)) ds[i] (by omega)) (Ev.pos h1000 (Ev.now _))
    · have htk : ds.take (i + 1) = ds.take i ++ [ds[i]] := List.take_succ_eq_append_getElem hlt
      have h3n : ∀ d ∈ ds.take (i + 1), d.length ≤ 1000 := fun d hd' => by
        rw [htk] at hd'
        rcases List.mem_append.1 hd' with h | h
        · exact h3 d h
        · simp at h; subst h; omega
      refine Ev.bind (append_ev (all (ds.take i)) ds[i] (hb _ (List.getElem_mem hlt)) (by omega) (by omega)) (Ev.neg h1000 (Ev.pos rfl ?_))
      rw [w64 (by omega) (by omega)]
      have hal2 : all (ds.take (i + 1)) = all (ds.take i) ++ rec_ ds[i] := by
        rw [htk, all_append]
        show _ ++ (rec_ ds[i] ++ []) = _
        rw [List.append_nil]
      have hn := ih (i + 1) (by omega) h3n
      rw [hal2] at hn
      exact hn
end Rows5
theorem FrameRows : contralaw05_FrameRows.Pure := by
  intro l0 l1 g0 g1
  refine Ev.rounds ?_
  unfold contralaw05_FrameRows.f
  refine Ev.bind Frame.records_ev (Ev.pos rfl ?_)
  have hj : ∀ b, (b = false → l0.length ≤ 20 ∧ l1.length ≤ 7) → Ev (fun k => contralaw05_FrameRows.j0 k l0 l1 b) true := by
    intro b hb
    refine Ev.up ?_
    simp only [contralaw05_FrameRows.j0]
    cases b with
    | true => exact Ev.pos rfl (Ev.now _)
    | false =>
      obtain ⟨h1, h2⟩ := hb rfl
      exact Ev.neg (by decide) (Rows5.l0_ev l0 (fun d hd x hx => Crc.wf_byte ((g0.2 d hd).2 x hx)) h1 l1 (fun x hx => Crc.wf_byte (g1.2 x hx)) h2 l0.length 0 (by omega) (by simp))
  by_cases h1 : (l0.length : Int) > 20
  · exact Ev.pos h1 (hj true (by simp))
  · refine Ev.neg h1 (hj _ (fun h => ?_))
    have := of_decide_eq_false h
    omega
end Go.Proofs.Ytipkgplkeebhkaa.Pure
