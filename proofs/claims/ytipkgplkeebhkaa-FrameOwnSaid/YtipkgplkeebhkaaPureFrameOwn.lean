/-
  Bytes that are handed in and out are not shared: for every list of bytes (more than 500 are let go by the statement itself).
-/
import Derived.Test.YtipkgplkeebhkaaMx6
import Derived.Test.YtipkgplkeebhkaaPFrame
namespace Go.Proofs.Ytipkgplkeebhkaa.Pure
open Go.RowKit Go.Proofs.Ytipkgplkeebhkaa.M Go.Proofs.YtipkgplkeebhkaaW.PrintWords Go.Proofs.YtipkgplkeebhkaaW.PrintLast Go.Proofs.YtipkgplkeebhkaaW.PrintMore
theorem own_loop1 (l b : List Int) (x5 x9 : Int) (m : Nat) (hm : m ≤ 1000000) (r : Bool) (h : ∀ x7, Ev (fun k => contralaw05_FrameOwn.l1 k l b x5 x7 x9 (m : Int) (m : Int)) r) (e : Nat) : ∀ (i : Nat) (x7 : List Int), i + e = m → x7.length = m →
    Ev (fun k => contralaw05_FrameOwn.l1 k l b x5 x7 x9 (m : Int) (i : Int)) r := by
  induction e with
  | zero =>
    intro i x7 hi _
    have : i = m := by omega
    subst this
    exact h x7
  | succ e ih =>
    intro i x7 hi hl
    refine Ev.up ?_
    simp only [contralaw05_FrameOwn.l1]
    refine Ev.pos (by omega) (Ev.pos (by omega) (Ev.pos (by omega) ?_))
    rw [w64 (by omega) (by omega)]
    exact ih (i + 1) _ (by omega) (by rw [List.length_set]; exact hl)
theorem own_loop0 (l b : List Int) (x5 : Int) (m : Nat) (hm : m ≤ 1000000) (r : Bool) (h : ∀ x3, Ev (fun k => contralaw05_FrameOwn.l0 k l x3 b x5 (m : Int) (m : Int)) r) (e : Nat) : ∀ (i : Nat) (x3 : List Int), i + e = m → x3.length = m →
    Ev (fun k => contralaw05_FrameOwn.l0 k l x3 b x5 (m : Int) (i : Int)) r := by
  induction e with
  | zero =>
    intro i x3 hi _
    have : i = m := by omega
    subst this
    exact h x3
  | succ e ih =>
    intro i x3 hi hl
    refine Ev.up ?_
    simp only [contralaw05_FrameOwn.l0]
    refine Ev.pos (by omega) (Ev.pos (by omega) (Ev.pos (by omega) ?_))
    rw [w64 (by omega) (by omega)]
    exact ih (i + 1) _ (by omega) (by rw [List.length_set]; exact hl)
theorem FrameOwn : contralaw05_FrameOwn.Pure := by
  intro l _ s0 b0
  refine Ev.rounds ?_
  have B : Frame.Bytes l := fun x hx => Crc.wf_byte (b0 x hx)
  unfold contralaw05_FrameOwn.f
  refine Ev.bind Frame.records_ev (Ev.pos rfl ?_)
  by_cases h1 : (l.length : Int) > 500
  · exact Ev.pos h1 (Ev.now _)
  · refine Ev.neg h1 (Ev.let_ (Ev.pos (by simp; omega) (Ev.let_ ?_)))
    rw [List.nil_append]
    have ha := Frame.append_ev [] l B (by omega) (by decide)
    rw [List.nil_append] at ha
    refine Ev.bind ha ?_
    have hr := Frame.read_ev (Frame.rec_ l) (Frame.rec_bytes B) (by rw [Frame.rec_length]; omega)
    have hrr := Frame.read_rec B (by omega) []
    rw [List.append_nil] at hrr
    rw [hrr] at hr
    refine own_loop0 l (Frame.rec_ l) 0 l.length (by omega) true (fun x3 => ?_) l.length 0 l (by omega) rfl
    refine Ev.up ?_
    simp only [contralaw05_FrameOwn.l0]
    refine Ev.neg (by omega) (Ev.bind hr ?_)
    refine own_loop1 l (Frame.rec_ l) 0 0 l.length (by omega) true (fun x7 => ?_) l.length 0 l (by omega) rfl
    refine Ev.up ?_
    simp only [contralaw05_FrameOwn.l1]
    refine Ev.neg (by omega) (Ev.bind hr (Ev.pos (by show wrap64 (wrap64 (0 + 0) + 0) = 0; unfold wrap64; omega) (Ev.pos rfl (Ev.some_ ?_))))
    rw [w64 (by omega) (by omega), beq_iff_eq]
    show 8 + (l.length : Int) = _
    omega
end Go.Proofs.Ytipkgplkeebhkaa.Pure
