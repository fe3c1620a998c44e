/-
  The records at the beginning of any bytes, as far as they are right, are the document's: for every list of bytes (more than 3000 are let go by the statement itself).
-/
import Derived.Test.YtipkgplkeebhkaaMx7
import Derived.Test.YtipkgplkeebhkaaPFrame
namespace Go.Proofs.Ytipkgplkeebhkaa.Pure
open Go.RowKit Go.Proofs.Ytipkgplkeebhkaa.M Go.Proofs.YtipkgplkeebhkaaW.PrintWords Go.Proofs.YtipkgplkeebhkaaW.PrintLast Go.Proofs.YtipkgplkeebhkaaW.PrintMore
theorem scans_loop (ds : List (List Int)) (hl : ds.length ≤ 1000000000) (d : Nat) : ∀ (i : Nat), i + d = ds.length →
    Ev (fun k => contralaw05_FrameScans.l0 k ds (ds.map strOfNums) (ds.length : Int) (i : Int)) true := by
  induction d with
  | zero =>
    intro i hi
    refine Ev.up ?_
    simp only [contralaw05_FrameScans.l0]
    exact Ev.neg (by omega) (Ev.now _)
  | succ d ih =>
    intro i hi
    refine Ev.up ?_
    simp only [contralaw05_FrameScans.l0]
    have hlt : i < ds.length := by omega
    refine Ev.pos (by omega) (Ev.pos (by omega) (Ev.pos (by omega) (Ev.pos (by rw [List.length_map]; omega) (Ev.pos ?_ ?_))))
    · congr 1
      unfold rd_L3 rdOf
      rw [Int.toNat_natCast, List.getD_eq_getElem?_getD, List.getD_eq_getElem?_getD, List.getElem?_map, List.getElem?_eq_getElem hlt]
      rfl
    · rw [w64 (by omega) (by omega)]
      exact ih (i + 1) (by omega)
theorem FrameScans : contralaw05_FrameScans.Pure := by
  intro l _ s0 b0
  refine Ev.rounds ?_
  have B : Frame.Bytes l := fun x hx => Crc.wf_byte (b0 x hx)
  unfold contralaw05_FrameScans.f
  refine Ev.bind Frame.records_ev (Ev.pos rfl ?_)
  by_cases h1 : (l.length : Int) > 3000
  · exact Ev.pos h1 (Ev.now _)
  · refine Ev.neg h1 ?_
    have hr := Frame.ref_scan_ev (strOfNums l) (by rw [strOfNums_size]; omega) 3000 0 [] (Nat.zero_le _) (by rw [strOfNums_size]; omega) (by decide)
    have hs := Frame.scan_ev l B (by omega) 3000 0 [] (Nat.zero_le _) (by omega) (by decide)
    rw [bs_str l B] at hr
    rw [List.drop_zero] at hr hs
    have hle := Frame.scan_length 3000 l
    refine Ev.bind (a := ([] ++ (Frame.scan 3000 l).1, ((0 : Nat) : Int) + (Frame.scan 3000 l).2)) hs (Ev.bind (a := ([] ++ (Frame.scan 3000 l).1.map strOfNums, ((0 : Nat) : Int) + (Frame.scan 3000 l).2)) hr (Ev.pos rfl ?_))
    refine Ev.up ?_
    simp only [contralaw05_FrameScans.j0, List.nil_append, List.length_map]
    refine Ev.neg (by simp) ?_
    exact scans_loop (Frame.scan 3000 l).1 (by omega) (Frame.scan 3000 l).1.length 0 (by omega)
end Go.Proofs.Ytipkgplkeebhkaa.Pure
