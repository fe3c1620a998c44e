/-
  msg.From: the next message of a reader.
-/
import Derived.Test.YtgmfafmefafiiaaPFrom
import Derived.Test.YtgmfafmefafiiaaOWrite
namespace Go.Proofs.Ytgmfafmefafiiaa.M
open Go.RowKit Go.Proofs.YtgmfafmefafiiaaW.PrintWords Go.Proofs.YtgmfafmefafiiaaW.PrintLast Go.Proofs.YtgmfafmefafiiaaW.PrintMore
open Go.Proofs.Ytgmfafmefafiiaa.Pure.Msg
open Go.Proofs.Ytgmfafmefafiiaa.Pure.Code (I64 enc Bytes)
set_option linter.unusedVariables false
set_option linter.unusedSimpArgs false
/-- From's memory: the reader's pointer at gp, the answer at gr, the message at gm -/
structure FM (w0 w : World) (g gp gr gm : Nat) (cs : Array Value) : Prop where
  keep : KeepBut w0 w g none
  bel : Below g w0 w
  hp : w.heap[gp]? = some (.cells #[.pointer (some ⟨g, 0, none⟩)] 44 (0, 0))
  hr : w.heap[gr]? = some (.cells #[.int .i64 0, .int .i64 0, .int .i64 0, .int .i64 0, .int .i64 0, .int .i64 0, .int .i64 0, .int .i64 0, .bool false, .slice none 0 0, .slice none 0 0] 28 (0, 0))
  hm : w.heap[gm]? = some (.cells cs 28 (0, 0))
  ne : g < w0.heap.size ∧ w0.heap.size ≤ gp ∧ w0.heap.size ≤ gr ∧ w0.heap.size ≤ gm ∧ gp ≠ gr ∧ gp ≠ gm ∧ gr ≠ gm
theorem FM.below {w0 w w' : World} {g gp gr gm : Nat} {cs : Array Value} (h : FM w0 w g gp gr gm cs) (hb : Below w.heap.size w w') : FM w0 w' g gp gr gm cs :=
  ⟨h.keep.trans (KeepBut.of_below hb g none) (.inl rfl), h.bel.trans (hb.mono (Nat.le_trans (Nat.le_of_lt h.ne.1) h.bel.size)), blk_below h.hp hb, blk_below h.hr hb, blk_below h.hm hb, h.ne⟩
theorem FM.call {w0 w w' : World} {g gp gr gm : Nat} {cs : Array Value} (h : FM w0 w g gp gr gm cs) (hb : Below g w w') (hk : KeepBut w w' g none) : FM w0 w' g gp gr gm cs :=
  have n := h.ne
  ⟨h.keep.trans hk (.inl rfl), h.bel.trans hb, hk.blk h.hp (by omega) (by simp), hk.blk h.hr (by omega) (by simp), hk.blk h.hm (by omega) (by simp), h.ne⟩
theorem FM.drew {w0 w : World} {g gp gr gm : Nat} {cs : Array Value} (h : FM w0 w g gp gr gm cs) : FM w0 w.drew g gp gr gm cs := h.below (below_drew (Below.refl _ _))
theorem FM.put {w0 w : World} {g gp gr gm : Nat} {cs cs' : Array Value} (h : FM w0 w g gp gr gm cs) (j : Nat) (v : Value) (e : cs.setIfInBounds j v = cs') : FM w0 (w.setCell ⟨gm, j, none⟩ v) g gp gr gm cs' :=
  have n := h.ne
  ⟨keep_far h.keep (p := ⟨gm, j, none⟩) n.2.2.2.1 v, below_setB h.bel (p := ⟨gm, j, none⟩) (by have := n.2.2.2.1; show g ≤ gm; omega) v, blk_far h.hp (p := ⟨gm, j, none⟩) n.2.2.2.2.2.1 v, blk_far h.hr (p := ⟨gm, j, none⟩) n.2.2.2.2.2.2 v, blk_put h.hm j v e, h.ne⟩
theorem FM.far {w0 w : World} {g gp gr gm gx : Nat} {cs : Array Value} (h : FM w0 w g gp gr gm cs) (hx : w0.heap.size ≤ gx ∧ gp ≠ gx ∧ gr ≠ gx ∧ gm ≠ gx) (j : Nat) (v : Value) : FM w0 (w.setCell ⟨gx, j, none⟩ v) g gp gr gm cs :=
  have n := h.ne
  ⟨keep_far h.keep (p := ⟨gx, j, none⟩) hx.1 v, below_setB h.bel (p := ⟨gx, j, none⟩) (by have := hx.1; show g ≤ gx; omega) v, blk_far h.hp (p := ⟨gx, j, none⟩) hx.2.1 v, blk_far h.hr (p := ⟨gx, j, none⟩) hx.2.2.1 v, blk_far h.hm (p := ⟨gx, j, none⟩) hx.2.2.2 v, h.ne⟩
theorem IsR.set {lo : Nat} {w : World} {g gx : Nat} {l : List Int} {a e : Int} (h : IsR lo w g l a e) (hx : g < gx) (j : Nat) (v : Value) : IsR lo (w.setCell ⟨gx, j, none⟩ v) g l a e :=
  h.kept (S := fun k => k = gx) ((Kept.refl w (fun k => k = gx)).setCell (p := ⟨gx, j, none⟩) (.inl rfl) v) (fun k hk => by subst hk; exact ⟨by omega, .inl hx⟩)
theorem IsR.drew {lo : Nat} {w : World} {g : Nat} {l : List Int} {a e : Int} (h : IsR lo w g l a e) : IsR lo w.drew g l a e := h.below (below_drew (Below.refl _ _))
abbrev set11 (w : World) (g : Nat) (x0 x1 x2 x3 x4 x5 x6 x7 x8 x9 x10 : Value) : World := (((((((((((w.setCell ⟨g, 0, none⟩ x0).setCell ⟨g, 1, none⟩ x1).setCell ⟨g, 2, none⟩ x2).setCell ⟨g, 3, none⟩ x3).setCell ⟨g, 4, none⟩ x4).setCell ⟨g, 5, none⟩ x5).setCell ⟨g, 6, none⟩ x6).setCell ⟨g, 7, none⟩ x7).setCell ⟨g, 8, none⟩ x8).setCell ⟨g, 9, none⟩ x9).setCell ⟨g, 10, none⟩ x10)
theorem set11_blk {w : World} {g t : Nat} {y0 y1 y2 y3 y4 y5 y6 y7 y8 y9 y10 : Value} (h : w.heap[g]? = some (.cells #[y0, y1, y2, y3, y4, y5, y6, y7, y8, y9, y10] t (0, 0))) (x0 x1 x2 x3 x4 x5 x6 x7 x8 x9 x10 : Value) : (set11 w g x0 x1 x2 x3 x4 x5 x6 x7 x8 x9 x10).heap[g]? = some (.cells #[x0, x1, x2, x3, x4, x5, x6, x7, x8, x9, x10] t (0, 0)) := (blk_put (blk_put (blk_put (blk_put (blk_put (blk_put (blk_put (blk_put (blk_put (blk_put (blk_put h 0 x0 (cs' := #[x0, y1, y2, y3, y4, y5, y6, y7, y8, y9, y10]) rfl) 1 x1 (cs' := #[x0, x1, y2, y3, y4, y5, y6, y7, y8, y9, y10]) rfl) 2 x2 (cs' := #[x0, x1, x2, y3, y4, y5, y6, y7, y8, y9, y10]) rfl) 3 x3 (cs' := #[x0, x1, x2, x3, y4, y5, y6, y7, y8, y9, y10]) rfl) 4 x4 (cs' := #[x0, x1, x2, x3, x4, y5, y6, y7, y8, y9, y10]) rfl) 5 x5 (cs' := #[x0, x1, x2, x3, x4, x5, y6, y7, y8, y9, y10]) rfl) 6 x6 (cs' := #[x0, x1, x2, x3, x4, x5, x6, y7, y8, y9, y10]) rfl) 7 x7 (cs' := #[x0, x1, x2, x3, x4, x5, x6, x7, y8, y9, y10]) rfl) 8 x8 (cs' := #[x0, x1, x2, x3, x4, x5, x6, x7, x8, y9, y10]) rfl) 9 x9 (cs' := #[x0, x1, x2, x3, x4, x5, x6, x7, x8, x9, y10]) rfl) 10 x10 (cs' := #[x0, x1, x2, x3, x4, x5, x6, x7, x8, x9, x10]) rfl)
theorem set11_kept (w : World) (g : Nat) (x0 x1 x2 x3 x4 x5 x6 x7 x8 x9 x10 : Value) : Kept w (set11 w g x0 x1 x2 x3 x4 x5 x6 x7 x8 x9 x10) (fun k => k = g) := ((((((((((((Kept.refl w (fun k => k = g)).setCell (p := ⟨g, 0, none⟩) (.inl rfl) x0).setCell (p := ⟨g, 1, none⟩) (.inl rfl) x1).setCell (p := ⟨g, 2, none⟩) (.inl rfl) x2).setCell (p := ⟨g, 3, none⟩) (.inl rfl) x3).setCell (p := ⟨g, 4, none⟩) (.inl rfl) x4).setCell (p := ⟨g, 5, none⟩) (.inl rfl) x5).setCell (p := ⟨g, 6, none⟩) (.inl rfl) x6).setCell (p := ⟨g, 7, none⟩) (.inl rfl) x7).setCell (p := ⟨g, 8, none⟩) (.inl rfl) x8).setCell (p := ⟨g, 9, none⟩) (.inl rfl) x9).setCell (p := ⟨g, 10, none⟩) (.inl rfl) x10)
theorem set11_far {w0 w : World} {gq g : Nat} (h : KeepBut w0 w gq none) (hg : w0.heap.size ≤ g) (x0 x1 x2 x3 x4 x5 x6 x7 x8 x9 x10 : Value) : KeepBut w0 (set11 w g x0 x1 x2 x3 x4 x5 x6 x7 x8 x9 x10) gq none := (keep_far (keep_far (keep_far (keep_far (keep_far (keep_far (keep_far (keep_far (keep_far (keep_far (keep_far h (p := ⟨g, 0, none⟩) hg x0) (p := ⟨g, 1, none⟩) hg x1) (p := ⟨g, 2, none⟩) hg x2) (p := ⟨g, 3, none⟩) hg x3) (p := ⟨g, 4, none⟩) hg x4) (p := ⟨g, 5, none⟩) hg x5) (p := ⟨g, 6, none⟩) hg x6) (p := ⟨g, 7, none⟩) hg x7) (p := ⟨g, 8, none⟩) hg x8) (p := ⟨g, 9, none⟩) hg x9) (p := ⟨g, 10, none⟩) hg x10)
theorem set11_below {B g : Nat} {w0 w : World} (h : Below B w0 w) (hg : B ≤ g) (x0 x1 x2 x3 x4 x5 x6 x7 x8 x9 x10 : Value) : Below B w0 (set11 w g x0 x1 x2 x3 x4 x5 x6 x7 x8 x9 x10) := (below_setB (below_setB (below_setB (below_setB (below_setB (below_setB (below_setB (below_setB (below_setB (below_setB (below_setB h (p := ⟨g, 0, none⟩) hg x0) (p := ⟨g, 1, none⟩) hg x1) (p := ⟨g, 2, none⟩) hg x2) (p := ⟨g, 3, none⟩) hg x3) (p := ⟨g, 4, none⟩) hg x4) (p := ⟨g, 5, none⟩) hg x5) (p := ⟨g, 6, none⟩) hg x6) (p := ⟨g, 7, none⟩) hg x7) (p := ⟨g, 8, none⟩) hg x8) (p := ⟨g, 9, none⟩) hg x9) (p := ⟨g, 10, none⟩) hg x10)
theorem FM.grown {w0 w w1 : World} {g gp gr gm : Nat} {cs : Array Value} {row : Option Nat} (h : FM w0 w g gp gr gm cs) (hb : Below w0.heap.size w w1) (hg : w.grownBy w1 row) (h1 : some gp ≠ row) (h2 : some gr ≠ row) (h3 : some gm ≠ row) : FM w0 w1 g gp gr gm cs :=
  ⟨⟨Nat.le_trans h.keep.1 hb.size, fun i hi h4 h5 => (hb.block i hi).trans (h.keep.2 i hi h4 h5)⟩, h.bel.trans (hb.mono (Nat.le_of_lt h.ne.1)), blk_grown h.hp hg h1, blk_grown h.hr hg h2, blk_grown h.hm hg h3, h.ne⟩
theorem IsR.grown {lo : Nat} {w0 w w1 : World} {g : Nat} {l : List Int} {a e : Int} (h : IsR lo w g l a e) (hb : Below w0.heap.size w w1) (hg : g < w0.heap.size) : IsR lo w1 g l a e :=
  h.kept (S := fun k => w0.heap.size ≤ k) ⟨hb.size, fun i hi hn => hb.block i (by omega)⟩ (fun k hk => ⟨by omega, .inl (by omega)⟩)
set_option maxHeartbeats 4000000 in
set_option maxRecDepth 100000 in
/-- the closure 'next' -/
theorem next_calls {w0 w : World} {g gp gr gm : Nat} {cs : Array Value} {lo : Nat} {l : List Int} {a e : Int} {k : Nat} {r1 r2 r3 : Int} (hF : FM w0 w g gp gr gm cs) (h : IsR lo w g l a e) (hf : code_Reader_Int.f k l a e 0 1073741824 = some (r1, r2, r3)) :
    Calls Try.prog 33 #[.pointer (some ⟨gp, 0, none⟩)] w fun x w' => x = .returned (.int .i64 r1) ∧ IsR 0 w' g l r2 r3 ∧ Below g w w' ∧ KeepBut w w' g none := by
  have HF := Aside0.mk hf; have H := Aside0.mk h
  have pc0 : w.cell? ⟨gp, 0, none⟩ = some (.pointer (some ⟨g, 0, none⟩)) := (blk_cell hF.hp 0).trans rfl
  clear hF h hf
  go_enter Try.func33, Try.ntmps33
  go_wp2_with fail
  refine (rd_Int 0 1073741824 H.out HF.out).mono ?_; rintro x w1 ⟨rfl, hR, hb, hk⟩; have R1 := Aside0.mk hR; have B1 := Aside0.mk hb; have K1 := Aside0.mk hk; clear hR hb hk
  go_wp2_with fail
  go_ret
  exact ⟨rfl, R1.out, B1.out, K1.out⟩
/-- what From leaves -/
def Came (w : World) (g : Nat) (l : List Int) (r : S28 × Int × Nat × Int) (x : Ending) (w' : World) : Prop :=
  KeepBut w w' g none ∧ Below g w w' ∧ IsR 0 w' g l (r.2.2.1 : Int) r.2.2.2 ∧
    ∃ v8 v9, x = .returned (.tuple #[.agg #[.int .i64 r.1.f0, .int .i64 r.1.f1.f0, .int .i64 r.1.f1.f1, .int .i64 r.1.f2, .int .i64 r.1.f3, .int .i64 r.1.f4, .int .i64 r.1.f5, .int .i64 r.1.f6, .bool r.1.f7, v8, v9], .int .i64 r.2.1]) ∧
      Kd.R k50 50 w' w.heap.size (fun _ => True) v8 r.1.f8 ∧ Kd.R (Kd.int .i64) 2 w' w.heap.size (fun k => some k ≠ v8.ownBlock) v9 r.1.f9
set_option maxHeartbeats 8000000 in
set_option maxRecDepth 100000 in
theorem msg_From {w : World} {g : Nat} {lo : Nat} {l : List Int} {p0 : Nat} {e0 : Int} (h : IsR lo w g l (p0 : Int) e0) (hl : l.length ≤ 1000000) (hb : Bytes l) (hp : p0 ≤ l.length) :
    Calls Try.prog 18 #[.pointer (some ⟨g, 0, none⟩)] w (Came w g l (fromF l (p0, e0))) := by
  have R0 := Aside0.mk h.zero; have G0 := Aside0.mk h.lt; have HL := Aside0.mk hl; have BB := Aside0.mk hb
  obtain ⟨kx, p1, e1, hq1, hp1, hr1, kk, hf1⟩ := rI_ok hl hb (e := e0) hp 1073741824 (by decide)
  obtain ⟨ax, p2, e2, hq2, hp2, hr2, ka, hf2⟩ := rI_ok hl hb (e := e1) hp1 1073741824 (by decide)
  obtain ⟨bx, p3, e3, hq3, hp3, hr3, kb, hf3⟩ := rI_ok hl hb (e := e2) hp2 1073741824 (by decide)
  obtain ⟨cx, p4, e4, hq4, hp4, hr4, kc, hf4⟩ := rI_ok hl hb (e := e3) hp3 1073741824 (by decide)
  obtain ⟨dx, p5, e5, hq5, hp5, hr5, kd, hf5⟩ := rI_ok hl hb (e := e4) hp4 1073741824 (by decide)
  obtain ⟨fx, p6, e6, hq6, hp6, hr6, kf, hf6⟩ := rI_ok hl hb (e := e5) hp5 1073741824 (by decide)
  obtain ⟨hx, p7, e7, hq7, hp7, hr7, kh, hf7⟩ := rI_ok hl hb (e := e6) hp6 1073741824 (by decide)
  obtain ⟨am, p8, e8, hq8, hp8, kA, hf8⟩ := rN_ok hl hb (e := e7) hp7
  obtain ⟨ye, p9, e9, hq9, hp9, hf9⟩ := rB_ok hl (e := e8) hp8
  obtain ⟨ln, p10, e10, hq10, hp10, hr10, kL, hf10⟩ := rI_ok hl hb (e := e9) hp9 1024 (by decide)
  have HF1 := Aside0.mk hf1; have HQ1 := Aside0.mk hq1; have HP1 := Aside0.mk hp1
  have HF2 := Aside0.mk hf2; have HQ2 := Aside0.mk hq2; have HP2 := Aside0.mk hp2
  have HF3 := Aside0.mk hf3; have HQ3 := Aside0.mk hq3; have HP3 := Aside0.mk hp3
  have HF4 := Aside0.mk hf4; have HQ4 := Aside0.mk hq4; have HP4 := Aside0.mk hp4
  have HF5 := Aside0.mk hf5; have HQ5 := Aside0.mk hq5; have HP5 := Aside0.mk hp5
  have HF6 := Aside0.mk hf6; have HQ6 := Aside0.mk hq6; have HP6 := Aside0.mk hp6
  have HF7 := Aside0.mk hf7; have HQ7 := Aside0.mk hq7; have HP7 := Aside0.mk hp7
  have HF8 := Aside0.mk hf8; have HQ8 := Aside0.mk hq8; have HP8 := Aside0.mk hp8
  have HF9 := Aside0.mk hf9; have HQ9 := Aside0.mk hq9; have HP9 := Aside0.mk hp9
  have HF10 := Aside0.mk hf10; have HQ10 := Aside0.mk hq10; have HP10 := Aside0.mk hp10
  have HLN := Aside0.mk hr10; have HAm := HF8; have HYe := HF9
  clear h hl hb hp hf1 hq1 hp1 hf2 hq2 hp2 hf3 hq3 hp3 hf4 hq4 hp4 hf5 hq5 hp5 hf6 hq6 hp6 hf7 hq7 hp7 hf8 hq8 hp8 hf9 hq9 hp9 hf10 hq10 hp10
  clear hr1 hr2 hr3 hr4 hr5 hr6 hr7 hr10
  obtain ⟨cnt, rfl⟩ : ∃ n : Nat, ln = (n : Int) := ⟨ln.toNat, by have := HLN.out; omega⟩
  by_cases hk0 : e1 = 0
  · have t0 : (e1 == 0) = true := beq_iff_eq.mpr hk0
    by_cases hk1 : kx < 1
    · have t1 : decide (kx < 1) = true := decide_eq_true hk1
      have HFR := Aside0.mk (show fromF l (p0, e0) = (z28, 110, p1, e1) by unfold fromF; simp only [HQ1.out]; rw [if_pos ⟨hk0, .inl hk1⟩])
      clear hk0 hk1
      go_enter Try.func18, Try.ntmps18
      go_wp2_with (first | ((with_reducible refine gate_dst (N := 1) rfl ?_); refine box_event ?hg (N := 1) ?hd (cs := #[.pointer (some ⟨g, 0, none⟩)]) (t := 44) ?hr ?_; (case hd => rfl); (case hg => rfl); (case hr => first | (go_simp; done) | (go_simp; rfl)); intro gp hg w1 hbox hb; have P1 := Aside0.mk hbox; have R1 := Aside0.mk (R0.out.below hb); have B1 := Aside0.mk hb; have GP := Aside0.mk hg; clear hb hg hbox) | ((with_reducible refine gate_dst (N := 2) rfl ?_); refine box_event ?hg (N := 2) ?hd (cs := #[.int .i64 0, .int .i64 0, .int .i64 0, .int .i64 0, .int .i64 0, .int .i64 0, .int .i64 0, .int .i64 0, .bool false, .slice none 0 0, .slice none 0 0]) (t := 28) ?hr ?_; (case hd => rfl); (case hg => rfl); (case hr => first | (go_simp; done) | (go_simp; rfl)); intro gr hg w2 hbox hb; have P2 := Aside0.mk (blk_below P1.out hb); have A2 := Aside0.mk hbox; have R2 := Aside0.mk (R1.out.below hb); have B2 := Aside0.mk (below_step B1.out hb); have GR := Aside0.mk (show w.heap.size ≤ gr ∧ gp ≠ gr from ⟨by rw [hg]; exact B1.out.size, by rw [hg]; exact Nat.ne_of_lt (blk_lt P1.out)⟩); clear hb hg hbox) | ((with_reducible refine gate_dst (N := 4) rfl ?_); refine box_event ?hg (N := 4) ?hd (cs := #[.int .i64 0, .int .i64 0, .int .i64 0, .int .i64 0, .int .i64 0, .int .i64 0, .int .i64 0, .int .i64 0, .bool false, .slice none 0 0, .slice none 0 0]) (t := 28) ?hr ?_; (case hd => rfl); (case hg => rfl); (case hr => first | (go_simp; done) | (go_simp; rfl)); intro gm hg w3 hbox hb; have R3 := Aside0.mk (R2.out.below hb); have F3 := Aside0.mk (FM.mk (KeepBut.of_below (below_step B2.out hb) g none) ((below_step B2.out hb).mono (Nat.le_of_lt G0.out)) (blk_below P2.out hb) (blk_below A2.out hb) hbox ⟨G0.out, by rw [GP.out]; exact Nat.le_refl _, GR.out.1, by rw [hg]; exact B2.out.size, GR.out.2, by rw [hg]; exact Nat.ne_of_lt (blk_lt P2.out), by rw [hg]; exact Nat.ne_of_lt (blk_lt A2.out)⟩); have pc0 : w3.cell? ⟨gp, 0, none⟩ = some (.pointer (some ⟨g, 0, none⟩)) := (blk_cell F3.out.hp 0).trans rfl; clear hb hg hbox))
      refine (rd_Int 0 1073741824 R3.out HF1.out).mono ?_; rintro x w4 ⟨rfl, hR, hb, hk⟩; have F4 := Aside0.mk (F3.out.call hb hk); have R4 := Aside0.mk hR; clear hR hb hk
      clear pc0
      have mc0 : w4.cell? ⟨gm, 0, none⟩ = some (.int .i64 0) := (blk_cell F4.out.hm 0).trans rfl; have mf0 := blk_frozen F4.out.hm 0; have mc1 : w4.cell? ⟨gm, 1, none⟩ = some (.int .i64 0) := (blk_cell F4.out.hm 1).trans rfl; have mf1 := blk_frozen F4.out.hm 1; have mc2 : w4.cell? ⟨gm, 2, none⟩ = some (.int .i64 0) := (blk_cell F4.out.hm 2).trans rfl; have mf2 := blk_frozen F4.out.hm 2; have mc3 : w4.cell? ⟨gm, 3, none⟩ = some (.int .i64 0) := (blk_cell F4.out.hm 3).trans rfl; have mf3 := blk_frozen F4.out.hm 3; have mc4 : w4.cell? ⟨gm, 4, none⟩ = some (.int .i64 0) := (blk_cell F4.out.hm 4).trans rfl; have mf4 := blk_frozen F4.out.hm 4; have mc5 : w4.cell? ⟨gm, 5, none⟩ = some (.int .i64 0) := (blk_cell F4.out.hm 5).trans rfl; have mf5 := blk_frozen F4.out.hm 5; have mc6 : w4.cell? ⟨gm, 6, none⟩ = some (.int .i64 0) := (blk_cell F4.out.hm 6).trans rfl; have mf6 := blk_frozen F4.out.hm 6; have mc7 : w4.cell? ⟨gm, 7, none⟩ = some (.int .i64 0) := (blk_cell F4.out.hm 7).trans rfl; have mf7 := blk_frozen F4.out.hm 7; have mc8 : w4.cell? ⟨gm, 8, none⟩ = some (.bool false) := (blk_cell F4.out.hm 8).trans rfl; have mf8 := blk_frozen F4.out.hm 8; have mc9 : w4.cell? ⟨gm, 9, none⟩ = some (.slice none 0 0) := (blk_cell F4.out.hm 9).trans rfl; have mf9 := blk_frozen F4.out.hm 9; have mc10 : w4.cell? ⟨gm, 10, none⟩ = some (.slice none 0 0) := (blk_cell F4.out.hm 10).trans rfl; have mf10 := blk_frozen F4.out.hm 10
      go_wp2_with (first | ((with_reducible refine gate_dst (N := 13) rfl ?_); have F5 := Aside0.mk (F4.out.put 0 (.int .i64 kx) (cs' := #[.int .i64 kx, .int .i64 0, .int .i64 0, .int .i64 0, .int .i64 0, .int .i64 0, .int .i64 0, .int .i64 0, .bool false, .slice none 0 0, .slice none 0 0]) rfl); have R5 := Aside0.mk (R4.out.set (gx := gm) (by have := F4.out.ne; omega) 0 (.int .i64 kx)); clear F4 R4 mc0 mf0 mc1 mf1 mc2 mf2 mc3 mf3 mc4 mf4 mc5 mf5 mc6 mf6 mc7 mf7 mc8 mf8 mc9 mf9 mc10 mf10; generalize w4.setCell ⟨gm, 0, none⟩ (.int .i64 kx) = w5 at F5 R5 ⊢; have pc0 : w5.cell? ⟨gp, 0, none⟩ = some (.pointer (some ⟨g, 0, none⟩)) := (blk_cell F5.out.hp 0).trans rfl))
      refine (rd_Err R5.out (show code_Reader_Err.f l (p1 : Int) e1 = some (e1, (p1 : Int), e1) from rfl)).mono ?_; rintro x w6 ⟨rfl, hR, hb, hk⟩; have F6 := Aside0.mk (F5.out.call hb hk); have R6 := Aside0.mk hR; clear hR hb hk
      clear pc0
      have mc0 : w6.cell? ⟨gm, 0, none⟩ = some (.int .i64 kx) := (blk_cell F6.out.hm 0).trans rfl; have mf0 := blk_frozen F6.out.hm 0; have mc1 : w6.cell? ⟨gm, 1, none⟩ = some (.int .i64 0) := (blk_cell F6.out.hm 1).trans rfl; have mf1 := blk_frozen F6.out.hm 1; have mc2 : w6.cell? ⟨gm, 2, none⟩ = some (.int .i64 0) := (blk_cell F6.out.hm 2).trans rfl; have mf2 := blk_frozen F6.out.hm 2; have mc3 : w6.cell? ⟨gm, 3, none⟩ = some (.int .i64 0) := (blk_cell F6.out.hm 3).trans rfl; have mf3 := blk_frozen F6.out.hm 3; have mc4 : w6.cell? ⟨gm, 4, none⟩ = some (.int .i64 0) := (blk_cell F6.out.hm 4).trans rfl; have mf4 := blk_frozen F6.out.hm 4; have mc5 : w6.cell? ⟨gm, 5, none⟩ = some (.int .i64 0) := (blk_cell F6.out.hm 5).trans rfl; have mf5 := blk_frozen F6.out.hm 5; have mc6 : w6.cell? ⟨gm, 6, none⟩ = some (.int .i64 0) := (blk_cell F6.out.hm 6).trans rfl; have mf6 := blk_frozen F6.out.hm 6; have mc7 : w6.cell? ⟨gm, 7, none⟩ = some (.int .i64 0) := (blk_cell F6.out.hm 7).trans rfl; have mf7 := blk_frozen F6.out.hm 7; have mc8 : w6.cell? ⟨gm, 8, none⟩ = some (.bool false) := (blk_cell F6.out.hm 8).trans rfl; have mf8 := blk_frozen F6.out.hm 8; have mc9 : w6.cell? ⟨gm, 9, none⟩ = some (.slice none 0 0) := (blk_cell F6.out.hm 9).trans rfl; have mf9 := blk_frozen F6.out.hm 9; have mc10 : w6.cell? ⟨gm, 10, none⟩ = some (.slice none 0 0) := (blk_cell F6.out.hm 10).trans rfl; have mf10 := blk_frozen F6.out.hm 10
      have rc0 : w6.cell? ⟨gr, 0, none⟩ = some (.int .i64 0) := (blk_cell F6.out.hr 0).trans rfl; have rf0 := blk_frozen F6.out.hr 0; have rc1 : w6.cell? ⟨gr, 1, none⟩ = some (.int .i64 0) := (blk_cell F6.out.hr 1).trans rfl; have rf1 := blk_frozen F6.out.hr 1; have rc2 : w6.cell? ⟨gr, 2, none⟩ = some (.int .i64 0) := (blk_cell F6.out.hr 2).trans rfl; have rf2 := blk_frozen F6.out.hr 2; have rc3 : w6.cell? ⟨gr, 3, none⟩ = some (.int .i64 0) := (blk_cell F6.out.hr 3).trans rfl; have rf3 := blk_frozen F6.out.hr 3; have rc4 : w6.cell? ⟨gr, 4, none⟩ = some (.int .i64 0) := (blk_cell F6.out.hr 4).trans rfl; have rf4 := blk_frozen F6.out.hr 4; have rc5 : w6.cell? ⟨gr, 5, none⟩ = some (.int .i64 0) := (blk_cell F6.out.hr 5).trans rfl; have rf5 := blk_frozen F6.out.hr 5; have rc6 : w6.cell? ⟨gr, 6, none⟩ = some (.int .i64 0) := (blk_cell F6.out.hr 6).trans rfl; have rf6 := blk_frozen F6.out.hr 6; have rc7 : w6.cell? ⟨gr, 7, none⟩ = some (.int .i64 0) := (blk_cell F6.out.hr 7).trans rfl; have rf7 := blk_frozen F6.out.hr 7; have rc8 : w6.cell? ⟨gr, 8, none⟩ = some (.bool false) := (blk_cell F6.out.hr 8).trans rfl; have rf8 := blk_frozen F6.out.hr 8; have rc9 : w6.cell? ⟨gr, 9, none⟩ = some (.slice none 0 0) := (blk_cell F6.out.hr 9).trans rfl; have rf9 := blk_frozen F6.out.hr 9; have rc10 : w6.cell? ⟨gr, 10, none⟩ = some (.slice none 0 0) := (blk_cell F6.out.hr 10).trans rfl; have rf10 := blk_frozen F6.out.hr 10
      go_wp2_with fail
      refine bodyPost_ret (results_ct rfl _ _ gr 28 #[.int .i64 0, .int .i64 0, .int .i64 0, .int .i64 0, .int .i64 0, .int .i64 0, .int .i64 0, .int .i64 0, .bool false, .slice none 0 0, .slice none 0 0] (0, 0) _ rfl (set11_blk F6.out.hr (.int .i64 0) (.int .i64 0) (.int .i64 0) (.int .i64 0) (.int .i64 0) (.int .i64 0) (.int .i64 0) (.int .i64 0) (.bool false) (.slice none 0 0) (.slice none 0 0)) Try.underlying28 rfl (by kernel_rfl)) rfl ?_
      rw [HFR.out]
      refine ⟨set11_far (g := gr) F6.out.keep (by have := F6.out.ne; omega) (.int .i64 0) (.int .i64 0) (.int .i64 0) (.int .i64 0) (.int .i64 0) (.int .i64 0) (.int .i64 0) (.int .i64 0) (.bool false) (.slice none 0 0) (.slice none 0 0), set11_below (g := gr) F6.out.bel (by have := F6.out.ne; omega) (.int .i64 0) (.int .i64 0) (.int .i64 0) (.int .i64 0) (.int .i64 0) (.int .i64 0) (.int .i64 0) (.int .i64 0) (.bool false) (.slice none 0 0) (.slice none 0 0), R6.out.kept (set11_kept w6 gr (.int .i64 0) (.int .i64 0) (.int .i64 0) (.int .i64 0) (.int .i64 0) (.int .i64 0) (.int .i64 0) (.int .i64 0) (.bool false) (.slice none 0 0) (.slice none 0 0)) (fun k hk => by subst hk; have := F6.out.ne; exact ⟨by omega, .inl (by omega)⟩), .slice none 0 0, .slice none 0 0, rfl, Kd.R_nil _ _ _ _ _, Kd.R_nil _ _ _ _ _⟩
    have t1 : decide (kx < 1) = false := decide_eq_false hk1
    by_cases hk2 : kx > 16
    · have t2 : decide (kx > 16) = true := decide_eq_true hk2
      have t3 : decide (16 < kx) = true := decide_eq_true hk2
      have HFR := Aside0.mk (show fromF l (p0, e0) = (z28, 110, p1, e1) by unfold fromF; simp only [HQ1.out]; rw [if_pos ⟨hk0, .inr hk2⟩])
      clear hk0 hk1 hk2
      go_enter Try.func18, Try.ntmps18
      go_wp2_with (first | ((with_reducible refine gate_dst (N := 1) rfl ?_); refine box_event ?hg (N := 1) ?hd (cs := #[.pointer (some ⟨g, 0, none⟩)]) (t := 44) ?hr ?_; (case hd => rfl); (case hg => rfl); (case hr => first | (go_simp; done) | (go_simp; rfl)); intro gp hg w1 hbox hb; have P1 := Aside0.mk hbox; have R1 := Aside0.mk (R0.out.below hb); have B1 := Aside0.mk hb; have GP := Aside0.mk hg; clear hb hg hbox) | ((with_reducible refine gate_dst (N := 2) rfl ?_); refine box_event ?hg (N := 2) ?hd (cs := #[.int .i64 0, .int .i64 0, .int .i64 0, .int .i64 0, .int .i64 0, .int .i64 0, .int .i64 0, .int .i64 0, .bool false, .slice none 0 0, .slice none 0 0]) (t := 28) ?hr ?_; (case hd => rfl); (case hg => rfl); (case hr => first | (go_simp; done) | (go_simp; rfl)); intro gr hg w2 hbox hb; have P2 := Aside0.mk (blk_below P1.out hb); have A2 := Aside0.mk hbox; have R2 := Aside0.mk (R1.out.below hb); have B2 := Aside0.mk (below_step B1.out hb); have GR := Aside0.mk (show w.heap.size ≤ gr ∧ gp ≠ gr from ⟨by rw [hg]; exact B1.out.size, by rw [hg]; exact Nat.ne_of_lt (blk_lt P1.out)⟩); clear hb hg hbox) | ((with_reducible refine gate_dst (N := 4) rfl ?_); refine box_event ?hg (N := 4) ?hd (cs := #[.int .i64 0, .int .i64 0, .int .i64 0, .int .i64 0, .int .i64 0, .int .i64 0, .int .i64 0, .int .i64 0, .bool false, .slice none 0 0, .slice none 0 0]) (t := 28) ?hr ?_; (case hd => rfl); (case hg => rfl); (case hr => first | (go_simp; done) | (go_simp; rfl)); intro gm hg w3 hbox hb; have R3 := Aside0.mk (R2.out.below hb); have F3 := Aside0.mk (FM.mk (KeepBut.of_below (below_step B2.out hb) g none) ((below_step B2.out hb).mono (Nat.le_of_lt G0.out)) (blk_below P2.out hb) (blk_below A2.out hb) hbox ⟨G0.out, by rw [GP.out]; exact Nat.le_refl _, GR.out.1, by rw [hg]; exact B2.out.size, GR.out.2, by rw [hg]; exact Nat.ne_of_lt (blk_lt P2.out), by rw [hg]; exact Nat.ne_of_lt (blk_lt A2.out)⟩); have pc0 : w3.cell? ⟨gp, 0, none⟩ = some (.pointer (some ⟨g, 0, none⟩)) := (blk_cell F3.out.hp 0).trans rfl; clear hb hg hbox))
      refine (rd_Int 0 1073741824 R3.out HF1.out).mono ?_; rintro x w4 ⟨rfl, hR, hb, hk⟩; have F4 := Aside0.mk (F3.out.call hb hk); have R4 := Aside0.mk hR; clear hR hb hk
      clear pc0
      have mc0 : w4.cell? ⟨gm, 0, none⟩ = some (.int .i64 0) := (blk_cell F4.out.hm 0).trans rfl; have mf0 := blk_frozen F4.out.hm 0; have mc1 : w4.cell? ⟨gm, 1, none⟩ = some (.int .i64 0) := (blk_cell F4.out.hm 1).trans rfl; have mf1 := blk_frozen F4.out.hm 1; have mc2 : w4.cell? ⟨gm, 2, none⟩ = some (.int .i64 0) := (blk_cell F4.out.hm 2).trans rfl; have mf2 := blk_frozen F4.out.hm 2; have mc3 : w4.cell? ⟨gm, 3, none⟩ = some (.int .i64 0) := (blk_cell F4.out.hm 3).trans rfl; have mf3 := blk_frozen F4.out.hm 3; have mc4 : w4.cell? ⟨gm, 4, none⟩ = some (.int .i64 0) := (blk_cell F4.out.hm 4).trans rfl; have mf4 := blk_frozen F4.out.hm 4; have mc5 : w4.cell? ⟨gm, 5, none⟩ = some (.int .i64 0) := (blk_cell F4.out.hm 5).trans rfl; have mf5 := blk_frozen F4.out.hm 5; have mc6 : w4.cell? ⟨gm, 6, none⟩ = some (.int .i64 0) := (blk_cell F4.out.hm 6).trans rfl; have mf6 := blk_frozen F4.out.hm 6; have mc7 : w4.cell? ⟨gm, 7, none⟩ = some (.int .i64 0) := (blk_cell F4.out.hm 7).trans rfl; have mf7 := blk_frozen F4.out.hm 7; have mc8 : w4.cell? ⟨gm, 8, none⟩ = some (.bool false) := (blk_cell F4.out.hm 8).trans rfl; have mf8 := blk_frozen F4.out.hm 8; have mc9 : w4.cell? ⟨gm, 9, none⟩ = some (.slice none 0 0) := (blk_cell F4.out.hm 9).trans rfl; have mf9 := blk_frozen F4.out.hm 9; have mc10 : w4.cell? ⟨gm, 10, none⟩ = some (.slice none 0 0) := (blk_cell F4.out.hm 10).trans rfl; have mf10 := blk_frozen F4.out.hm 10
      go_wp2_with (first | ((with_reducible refine gate_dst (N := 13) rfl ?_); have F5 := Aside0.mk (F4.out.put 0 (.int .i64 kx) (cs' := #[.int .i64 kx, .int .i64 0, .int .i64 0, .int .i64 0, .int .i64 0, .int .i64 0, .int .i64 0, .int .i64 0, .bool false, .slice none 0 0, .slice none 0 0]) rfl); have R5 := Aside0.mk (R4.out.set (gx := gm) (by have := F4.out.ne; omega) 0 (.int .i64 kx)); clear F4 R4 mc0 mf0 mc1 mf1 mc2 mf2 mc3 mf3 mc4 mf4 mc5 mf5 mc6 mf6 mc7 mf7 mc8 mf8 mc9 mf9 mc10 mf10; generalize w4.setCell ⟨gm, 0, none⟩ (.int .i64 kx) = w5 at F5 R5 ⊢; have pc0 : w5.cell? ⟨gp, 0, none⟩ = some (.pointer (some ⟨g, 0, none⟩)) := (blk_cell F5.out.hp 0).trans rfl))
      refine (rd_Err R5.out (show code_Reader_Err.f l (p1 : Int) e1 = some (e1, (p1 : Int), e1) from rfl)).mono ?_; rintro x w6 ⟨rfl, hR, hb, hk⟩; have F6 := Aside0.mk (F5.out.call hb hk); have R6 := Aside0.mk hR; clear hR hb hk
      clear pc0
      have mc0 : w6.cell? ⟨gm, 0, none⟩ = some (.int .i64 kx) := (blk_cell F6.out.hm 0).trans rfl; have mf0 := blk_frozen F6.out.hm 0; have mc1 : w6.cell? ⟨gm, 1, none⟩ = some (.int .i64 0) := (blk_cell F6.out.hm 1).trans rfl; have mf1 := blk_frozen F6.out.hm 1; have mc2 : w6.cell? ⟨gm, 2, none⟩ = some (.int .i64 0) := (blk_cell F6.out.hm 2).trans rfl; have mf2 := blk_frozen F6.out.hm 2; have mc3 : w6.cell? ⟨gm, 3, none⟩ = some (.int .i64 0) := (blk_cell F6.out.hm 3).trans rfl; have mf3 := blk_frozen F6.out.hm 3; have mc4 : w6.cell? ⟨gm, 4, none⟩ = some (.int .i64 0) := (blk_cell F6.out.hm 4).trans rfl; have mf4 := blk_frozen F6.out.hm 4; have mc5 : w6.cell? ⟨gm, 5, none⟩ = some (.int .i64 0) := (blk_cell F6.out.hm 5).trans rfl; have mf5 := blk_frozen F6.out.hm 5; have mc6 : w6.cell? ⟨gm, 6, none⟩ = some (.int .i64 0) := (blk_cell F6.out.hm 6).trans rfl; have mf6 := blk_frozen F6.out.hm 6; have mc7 : w6.cell? ⟨gm, 7, none⟩ = some (.int .i64 0) := (blk_cell F6.out.hm 7).trans rfl; have mf7 := blk_frozen F6.out.hm 7; have mc8 : w6.cell? ⟨gm, 8, none⟩ = some (.bool false) := (blk_cell F6.out.hm 8).trans rfl; have mf8 := blk_frozen F6.out.hm 8; have mc9 : w6.cell? ⟨gm, 9, none⟩ = some (.slice none 0 0) := (blk_cell F6.out.hm 9).trans rfl; have mf9 := blk_frozen F6.out.hm 9; have mc10 : w6.cell? ⟨gm, 10, none⟩ = some (.slice none 0 0) := (blk_cell F6.out.hm 10).trans rfl; have mf10 := blk_frozen F6.out.hm 10
      have rc0 : w6.cell? ⟨gr, 0, none⟩ = some (.int .i64 0) := (blk_cell F6.out.hr 0).trans rfl; have rf0 := blk_frozen F6.out.hr 0; have rc1 : w6.cell? ⟨gr, 1, none⟩ = some (.int .i64 0) := (blk_cell F6.out.hr 1).trans rfl; have rf1 := blk_frozen F6.out.hr 1; have rc2 : w6.cell? ⟨gr, 2, none⟩ = some (.int .i64 0) := (blk_cell F6.out.hr 2).trans rfl; have rf2 := blk_frozen F6.out.hr 2; have rc3 : w6.cell? ⟨gr, 3, none⟩ = some (.int .i64 0) := (blk_cell F6.out.hr 3).trans rfl; have rf3 := blk_frozen F6.out.hr 3; have rc4 : w6.cell? ⟨gr, 4, none⟩ = some (.int .i64 0) := (blk_cell F6.out.hr 4).trans rfl; have rf4 := blk_frozen F6.out.hr 4; have rc5 : w6.cell? ⟨gr, 5, none⟩ = some (.int .i64 0) := (blk_cell F6.out.hr 5).trans rfl; have rf5 := blk_frozen F6.out.hr 5; have rc6 : w6.cell? ⟨gr, 6, none⟩ = some (.int .i64 0) := (blk_cell F6.out.hr 6).trans rfl; have rf6 := blk_frozen F6.out.hr 6; have rc7 : w6.cell? ⟨gr, 7, none⟩ = some (.int .i64 0) := (blk_cell F6.out.hr 7).trans rfl; have rf7 := blk_frozen F6.out.hr 7; have rc8 : w6.cell? ⟨gr, 8, none⟩ = some (.bool false) := (blk_cell F6.out.hr 8).trans rfl; have rf8 := blk_frozen F6.out.hr 8; have rc9 : w6.cell? ⟨gr, 9, none⟩ = some (.slice none 0 0) := (blk_cell F6.out.hr 9).trans rfl; have rf9 := blk_frozen F6.out.hr 9; have rc10 : w6.cell? ⟨gr, 10, none⟩ = some (.slice none 0 0) := (blk_cell F6.out.hr 10).trans rfl; have rf10 := blk_frozen F6.out.hr 10
      go_wp2_with fail
      refine bodyPost_ret (results_ct rfl _ _ gr 28 #[.int .i64 0, .int .i64 0, .int .i64 0, .int .i64 0, .int .i64 0, .int .i64 0, .int .i64 0, .int .i64 0, .bool false, .slice none 0 0, .slice none 0 0] (0, 0) _ rfl (set11_blk F6.out.hr (.int .i64 0) (.int .i64 0) (.int .i64 0) (.int .i64 0) (.int .i64 0) (.int .i64 0) (.int .i64 0) (.int .i64 0) (.bool false) (.slice none 0 0) (.slice none 0 0)) Try.underlying28 rfl (by kernel_rfl)) rfl ?_
      rw [HFR.out]
      refine ⟨set11_far (g := gr) F6.out.keep (by have := F6.out.ne; omega) (.int .i64 0) (.int .i64 0) (.int .i64 0) (.int .i64 0) (.int .i64 0) (.int .i64 0) (.int .i64 0) (.int .i64 0) (.bool false) (.slice none 0 0) (.slice none 0 0), set11_below (g := gr) F6.out.bel (by have := F6.out.ne; omega) (.int .i64 0) (.int .i64 0) (.int .i64 0) (.int .i64 0) (.int .i64 0) (.int .i64 0) (.int .i64 0) (.int .i64 0) (.bool false) (.slice none 0 0) (.slice none 0 0), R6.out.kept (set11_kept w6 gr (.int .i64 0) (.int .i64 0) (.int .i64 0) (.int .i64 0) (.int .i64 0) (.int .i64 0) (.int .i64 0) (.int .i64 0) (.bool false) (.slice none 0 0) (.slice none 0 0)) (fun k hk => by subst hk; have := F6.out.ne; exact ⟨by omega, .inl (by omega)⟩), .slice none 0 0, .slice none 0 0, rfl, Kd.R_nil _ _ _ _ _, Kd.R_nil _ _ _ _ _⟩
    have t2 : decide (kx > 16) = false := decide_eq_false hk2
    have t3 : decide (16 < kx) = false := decide_eq_false hk2
    have HOK := Aside0.mk (show ¬ (e1 = 0 ∧ (kx < 1 ∨ kx > 16)) from fun q => q.2.elim hk1 hk2)
    clear hk0 hk1 hk2
    go_enter Try.func18, Try.ntmps18
    go_wp2_with (first | ((with_reducible refine gate_dst (N := 1) rfl ?_); refine box_event ?hg (N := 1) ?hd (cs := #[.pointer (some ⟨g, 0, none⟩)]) (t := 44) ?hr ?_; (case hd => rfl); (case hg => rfl); (case hr => first | (go_simp; done) | (go_simp; rfl)); intro gp hg w1 hbox hb; have P1 := Aside0.mk hbox; have R1 := Aside0.mk (R0.out.below hb); have B1 := Aside0.mk hb; have GP := Aside0.mk hg; clear hb hg hbox) | ((with_reducible refine gate_dst (N := 2) rfl ?_); refine box_event ?hg (N := 2) ?hd (cs := #[.int .i64 0, .int .i64 0, .int .i64 0, .int .i64 0, .int .i64 0, .int .i64 0, .int .i64 0, .int .i64 0, .bool false, .slice none 0 0, .slice none 0 0]) (t := 28) ?hr ?_; (case hd => rfl); (case hg => rfl); (case hr => first | (go_simp; done) | (go_simp; rfl)); intro gr hg w2 hbox hb; have P2 := Aside0.mk (blk_below P1.out hb); have A2 := Aside0.mk hbox; have R2 := Aside0.mk (R1.out.below hb); have B2 := Aside0.mk (below_step B1.out hb); have GR := Aside0.mk (show w.heap.size ≤ gr ∧ gp ≠ gr from ⟨by rw [hg]; exact B1.out.size, by rw [hg]; exact Nat.ne_of_lt (blk_lt P1.out)⟩); clear hb hg hbox) | ((with_reducible refine gate_dst (N := 4) rfl ?_); refine box_event ?hg (N := 4) ?hd (cs := #[.int .i64 0, .int .i64 0, .int .i64 0, .int .i64 0, .int .i64 0, .int .i64 0, .int .i64 0, .int .i64 0, .bool false, .slice none 0 0, .slice none 0 0]) (t := 28) ?hr ?_; (case hd => rfl); (case hg => rfl); (case hr => first | (go_simp; done) | (go_simp; rfl)); intro gm hg w3 hbox hb; have R3 := Aside0.mk (R2.out.below hb); have F3 := Aside0.mk (FM.mk (KeepBut.of_below (below_step B2.out hb) g none) ((below_step B2.out hb).mono (Nat.le_of_lt G0.out)) (blk_below P2.out hb) (blk_below A2.out hb) hbox ⟨G0.out, by rw [GP.out]; exact Nat.le_refl _, GR.out.1, by rw [hg]; exact B2.out.size, GR.out.2, by rw [hg]; exact Nat.ne_of_lt (blk_lt P2.out), by rw [hg]; exact Nat.ne_of_lt (blk_lt A2.out)⟩); have pc0 : w3.cell? ⟨gp, 0, none⟩ = some (.pointer (some ⟨g, 0, none⟩)) := (blk_cell F3.out.hp 0).trans rfl; clear hb hg hbox))
    refine (rd_Int 0 1073741824 R3.out HF1.out).mono ?_; rintro x w4 ⟨rfl, hR, hb, hk⟩; have F4 := Aside0.mk (F3.out.call hb hk); have R4 := Aside0.mk hR; clear hR hb hk
    clear pc0
    have mc0 : w4.cell? ⟨gm, 0, none⟩ = some (.int .i64 0) := (blk_cell F4.out.hm 0).trans rfl; have mf0 := blk_frozen F4.out.hm 0; have mc1 : w4.cell? ⟨gm, 1, none⟩ = some (.int .i64 0) := (blk_cell F4.out.hm 1).trans rfl; have mf1 := blk_frozen F4.out.hm 1; have mc2 : w4.cell? ⟨gm, 2, none⟩ = some (.int .i64 0) := (blk_cell F4.out.hm 2).trans rfl; have mf2 := blk_frozen F4.out.hm 2; have mc3 : w4.cell? ⟨gm, 3, none⟩ = some (.int .i64 0) := (blk_cell F4.out.hm 3).trans rfl; have mf3 := blk_frozen F4.out.hm 3; have mc4 : w4.cell? ⟨gm, 4, none⟩ = some (.int .i64 0) := (blk_cell F4.out.hm 4).trans rfl; have mf4 := blk_frozen F4.out.hm 4; have mc5 : w4.cell? ⟨gm, 5, none⟩ = some (.int .i64 0) := (blk_cell F4.out.hm 5).trans rfl; have mf5 := blk_frozen F4.out.hm 5; have mc6 : w4.cell? ⟨gm, 6, none⟩ = some (.int .i64 0) := (blk_cell F4.out.hm 6).trans rfl; have mf6 := blk_frozen F4.out.hm 6; have mc7 : w4.cell? ⟨gm, 7, none⟩ = some (.int .i64 0) := (blk_cell F4.out.hm 7).trans rfl; have mf7 := blk_frozen F4.out.hm 7; have mc8 : w4.cell? ⟨gm, 8, none⟩ = some (.bool false) := (blk_cell F4.out.hm 8).trans rfl; have mf8 := blk_frozen F4.out.hm 8; have mc9 : w4.cell? ⟨gm, 9, none⟩ = some (.slice none 0 0) := (blk_cell F4.out.hm 9).trans rfl; have mf9 := blk_frozen F4.out.hm 9; have mc10 : w4.cell? ⟨gm, 10, none⟩ = some (.slice none 0 0) := (blk_cell F4.out.hm 10).trans rfl; have mf10 := blk_frozen F4.out.hm 10
    go_wp2_with (first | ((with_reducible refine gate_dst (N := 13) rfl ?_); have F5 := Aside0.mk (F4.out.put 0 (.int .i64 kx) (cs' := #[.int .i64 kx, .int .i64 0, .int .i64 0, .int .i64 0, .int .i64 0, .int .i64 0, .int .i64 0, .int .i64 0, .bool false, .slice none 0 0, .slice none 0 0]) rfl); have R5 := Aside0.mk (R4.out.set (gx := gm) (by have := F4.out.ne; omega) 0 (.int .i64 kx)); clear F4 R4 mc0 mf0 mc1 mf1 mc2 mf2 mc3 mf3 mc4 mf4 mc5 mf5 mc6 mf6 mc7 mf7 mc8 mf8 mc9 mf9 mc10 mf10; generalize w4.setCell ⟨gm, 0, none⟩ (.int .i64 kx) = w5 at F5 R5 ⊢; have pc0 : w5.cell? ⟨gp, 0, none⟩ = some (.pointer (some ⟨g, 0, none⟩)) := (blk_cell F5.out.hp 0).trans rfl))
    refine (rd_Err R5.out (show code_Reader_Err.f l (p1 : Int) e1 = some (e1, (p1 : Int), e1) from rfl)).mono ?_; rintro x w6 ⟨rfl, hR, hb, hk⟩; have F6 := Aside0.mk (F5.out.call hb hk); have R6 := Aside0.mk hR; clear hR hb hk
    clear pc0
    have mc0 : w6.cell? ⟨gm, 0, none⟩ = some (.int .i64 kx) := (blk_cell F6.out.hm 0).trans rfl; have mf0 := blk_frozen F6.out.hm 0; have mc1 : w6.cell? ⟨gm, 1, none⟩ = some (.int .i64 0) := (blk_cell F6.out.hm 1).trans rfl; have mf1 := blk_frozen F6.out.hm 1; have mc2 : w6.cell? ⟨gm, 2, none⟩ = some (.int .i64 0) := (blk_cell F6.out.hm 2).trans rfl; have mf2 := blk_frozen F6.out.hm 2; have mc3 : w6.cell? ⟨gm, 3, none⟩ = some (.int .i64 0) := (blk_cell F6.out.hm 3).trans rfl; have mf3 := blk_frozen F6.out.hm 3; have mc4 : w6.cell? ⟨gm, 4, none⟩ = some (.int .i64 0) := (blk_cell F6.out.hm 4).trans rfl; have mf4 := blk_frozen F6.out.hm 4; have mc5 : w6.cell? ⟨gm, 5, none⟩ = some (.int .i64 0) := (blk_cell F6.out.hm 5).trans rfl; have mf5 := blk_frozen F6.out.hm 5; have mc6 : w6.cell? ⟨gm, 6, none⟩ = some (.int .i64 0) := (blk_cell F6.out.hm 6).trans rfl; have mf6 := blk_frozen F6.out.hm 6; have mc7 : w6.cell? ⟨gm, 7, none⟩ = some (.int .i64 0) := (blk_cell F6.out.hm 7).trans rfl; have mf7 := blk_frozen F6.out.hm 7; have mc8 : w6.cell? ⟨gm, 8, none⟩ = some (.bool false) := (blk_cell F6.out.hm 8).trans rfl; have mf8 := blk_frozen F6.out.hm 8; have mc9 : w6.cell? ⟨gm, 9, none⟩ = some (.slice none 0 0) := (blk_cell F6.out.hm 9).trans rfl; have mf9 := blk_frozen F6.out.hm 9; have mc10 : w6.cell? ⟨gm, 10, none⟩ = some (.slice none 0 0) := (blk_cell F6.out.hm 10).trans rfl; have mf10 := blk_frozen F6.out.hm 10
    have hmf : ∀ (fn : Fn) (first cap : Array Value) (w : World), (Instr.makeFunc fn first cap).run Try.prog w = .ok (.func fn first cap) w := fun _ _ _ _ => rfl
    go_wp2_with fail
    refine (next_calls F6.out R6.out HF2.out).mono ?_; rintro x w7 ⟨rfl, hR, hb, hk⟩; have F7 := Aside0.mk (F6.out.call hb hk); have R7 := Aside0.mk hR; clear hR hb hk
    clear mc0 mf0 mc1 mf1 mc2 mf2 mc3 mf3 mc4 mf4 mc5 mf5 mc6 mf6 mc7 mf7 mc8 mf8 mc9 mf9 mc10 mf10
    go_wp2_with fail
    refine (next_calls F7.out R7.out HF3.out).mono ?_; rintro x w8 ⟨rfl, hR, hb, hk⟩; have F8 := Aside0.mk (F7.out.call hb hk); have R8 := Aside0.mk hR; clear hR hb hk
    go_wp2_with fail
    refine (next_calls F8.out R8.out HF4.out).mono ?_; rintro x w9 ⟨rfl, hR, hb, hk⟩; have F9 := Aside0.mk (F8.out.call hb hk); have R9 := Aside0.mk hR; clear hR hb hk
    go_wp2_with fail
    refine (next_calls F9.out R9.out HF5.out).mono ?_; rintro x w10 ⟨rfl, hR, hb, hk⟩; have F10 := Aside0.mk (F9.out.call hb hk); have R10 := Aside0.mk hR; clear hR hb hk
    go_wp2_with fail
    refine (next_calls F10.out R10.out HF6.out).mono ?_; rintro x w11 ⟨rfl, hR, hb, hk⟩; have F11 := Aside0.mk (F10.out.call hb hk); have R11 := Aside0.mk hR; clear hR hb hk
    go_wp2_with fail
    refine (next_calls F11.out R11.out HF7.out).mono ?_; rintro x w12 ⟨rfl, hR, hb, hk⟩; have F12 := Aside0.mk (F11.out.call hb hk); have R12 := Aside0.mk hR; clear hR hb hk
    have mc0 : w12.cell? ⟨gm, 0, none⟩ = some (.int .i64 kx) := (blk_cell F12.out.hm 0).trans rfl; have mf0 := blk_frozen F12.out.hm 0; have mc1 : w12.cell? ⟨gm, 1, none⟩ = some (.int .i64 0) := (blk_cell F12.out.hm 1).trans rfl; have mf1 := blk_frozen F12.out.hm 1; have mc2 : w12.cell? ⟨gm, 2, none⟩ = some (.int .i64 0) := (blk_cell F12.out.hm 2).trans rfl; have mf2 := blk_frozen F12.out.hm 2; have mc3 : w12.cell? ⟨gm, 3, none⟩ = some (.int .i64 0) := (blk_cell F12.out.hm 3).trans rfl; have mf3 := blk_frozen F12.out.hm 3; have mc4 : w12.cell? ⟨gm, 4, none⟩ = some (.int .i64 0) := (blk_cell F12.out.hm 4).trans rfl; have mf4 := blk_frozen F12.out.hm 4; have mc5 : w12.cell? ⟨gm, 5, none⟩ = some (.int .i64 0) := (blk_cell F12.out.hm 5).trans rfl; have mf5 := blk_frozen F12.out.hm 5; have mc6 : w12.cell? ⟨gm, 6, none⟩ = some (.int .i64 0) := (blk_cell F12.out.hm 6).trans rfl; have mf6 := blk_frozen F12.out.hm 6; have mc7 : w12.cell? ⟨gm, 7, none⟩ = some (.int .i64 0) := (blk_cell F12.out.hm 7).trans rfl; have mf7 := blk_frozen F12.out.hm 7; have mc8 : w12.cell? ⟨gm, 8, none⟩ = some (.bool false) := (blk_cell F12.out.hm 8).trans rfl; have mf8 := blk_frozen F12.out.hm 8; have mc9 : w12.cell? ⟨gm, 9, none⟩ = some (.slice none 0 0) := (blk_cell F12.out.hm 9).trans rfl; have mf9 := blk_frozen F12.out.hm 9; have mc10 : w12.cell? ⟨gm, 10, none⟩ = some (.slice none 0 0) := (blk_cell F12.out.hm 10).trans rfl; have mf10 := blk_frozen F12.out.hm 10
    go_wp2_with fail
    have FD := Aside0.mk ((((((F12.out.put 1 (.int .i64 ax) (cs' := #[.int .i64 kx, .int .i64 ax, .int .i64 0, .int .i64 0, .int .i64 0, .int .i64 0, .int .i64 0, .int .i64 0, .bool false, .slice none 0 0, .slice none 0 0]) rfl).put 2 (.int .i64 bx) (cs' := #[.int .i64 kx, .int .i64 ax, .int .i64 bx, .int .i64 0, .int .i64 0, .int .i64 0, .int .i64 0, .int .i64 0, .bool false, .slice none 0 0, .slice none 0 0]) rfl).put 3 (.int .i64 cx) (cs' := #[.int .i64 kx, .int .i64 ax, .int .i64 bx, .int .i64 cx, .int .i64 0, .int .i64 0, .int .i64 0, .int .i64 0, .bool false, .slice none 0 0, .slice none 0 0]) rfl).put 4 (.int .i64 dx) (cs' := #[.int .i64 kx, .int .i64 ax, .int .i64 bx, .int .i64 cx, .int .i64 dx, .int .i64 0, .int .i64 0, .int .i64 0, .bool false, .slice none 0 0, .slice none 0 0]) rfl).put 5 (.int .i64 fx) (cs' := #[.int .i64 kx, .int .i64 ax, .int .i64 bx, .int .i64 cx, .int .i64 dx, .int .i64 fx, .int .i64 0, .int .i64 0, .bool false, .slice none 0 0, .slice none 0 0]) rfl).put 6 (.int .i64 hx) (cs' := #[.int .i64 kx, .int .i64 ax, .int .i64 bx, .int .i64 cx, .int .i64 dx, .int .i64 fx, .int .i64 hx, .int .i64 0, .bool false, .slice none 0 0, .slice none 0 0]) rfl); have RD := Aside0.mk ((((((R12.out.set (gx := gm) (by have := F12.out.ne; omega) 1 (.int .i64 ax)).set (gx := gm) (by have := F12.out.ne; omega) 2 (.int .i64 bx)).set (gx := gm) (by have := F12.out.ne; omega) 3 (.int .i64 cx)).set (gx := gm) (by have := F12.out.ne; omega) 4 (.int .i64 dx)).set (gx := gm) (by have := F12.out.ne; omega) 5 (.int .i64 fx)).set (gx := gm) (by have := F12.out.ne; omega) 6 (.int .i64 hx))
    clear F12 R12 mc0 mf0 mc1 mf1 mc2 mf2 mc3 mf3 mc4 mf4 mc5 mf5 mc6 mf6 mc7 mf7 mc8 mf8 mc9 mf9 mc10 mf10
    generalize ((((((w12.setCell ⟨gm, 1, none⟩ (.int .i64 ax)).setCell ⟨gm, 2, none⟩ (.int .i64 bx)).setCell ⟨gm, 3, none⟩ (.int .i64 cx)).setCell ⟨gm, 4, none⟩ (.int .i64 dx)).setCell ⟨gm, 5, none⟩ (.int .i64 fx)).setCell ⟨gm, 6, none⟩ (.int .i64 hx)) = wd at FD RD ⊢
    refine start_ (n := 8) (S := fun w' => w'.cell? ⟨gp, 0, none⟩ = some (.pointer (some ⟨g, 0, none⟩))) (ds := [5, 7]) #[false, false, false, false, false, false, false, false] (by kernel_rfl) rfl rfl ((blk_cell (FD.out.drew).hp 0).trans rfl) (fun hHeld => ?_)
    refine take_ (i := 0) (N := some 48) (v := ?_) (a' := ?_) #[true, false, false, false, false, false, false, false] rfl rfl (by kernel_rfl) (fun _ _ _ h => h) (Or.inl ⟨by rfl, ?_⟩) hHeld ?_ ?_
    rotate_left
    · intro w' s0
      go_simp
      with_reducible rfl
    rotate_left
    · simp only [Act.put, List.setIfInBounds_toArray, List.set_cons_zero, List.set_cons_succ, i64_w, i32_w]
      rfl
    refine take_ (i := 2) (N := some 50) (v := ?_) (a' := ?_) #[true, false, true, false, false, false, false, false] rfl rfl (by kernel_rfl) (fun _ _ _ h => h) (Or.inl ⟨by rfl, ?_⟩) hHeld ?_ ?_
    rotate_left
    · intro w' s0
      go_simp
      with_reducible rfl
    rotate_left
    · simp only [Act.put, List.setIfInBounds_toArray, List.set_cons_zero, List.set_cons_succ, i64_w, i32_w]
      rfl
    refine one_ (i := 1) (N := some 49) #[true, true, true, false, false, false, false, false] rfl rfl (by kernel_rfl) (by decide) (fun K hK => ?_)
    refine goes_ Try.func34 (by kernel_rfl) rfl #[.pointer (some ⟨g, 0, none⟩)] (by rfl) rfl rfl (by simp only [List.map_toArray, List.map_cons, List.map_nil]; rfl) ?_
    with_reducible refine (rd_Num (w := wd.drew) RD.out.drew HAm.out).mono ?_
    rintro e w14 ⟨rfl, hR, hb, hk⟩
    refine ⟨_, rfl, ?_⟩
    have F14 := Aside0.mk (FD.out.drew.call hb hk)
    have R14 := Aside0.mk hR
    clear hR hb hk
    refine hK.out _ _ ((blk_cell (F14.out).hp 0).trans rfl) (fun hHeld => ?_)
    clear hK K
    refine norm_ (a' := ?_) ?_ ?_
    rotate_left
    · show Act.put _ (some 49) _ = _
      simp only [Act.put, List.setIfInBounds_toArray, List.set_cons_zero, List.set_cons_succ, i64_w, i32_w]
      rfl
    refine pure_ (i := 4) (N := some 52) (v := ?_) (a' := ?_) #[true, true, true, false, true, false, false, false] rfl rfl (by kernel_rfl) (fun _ _ _ h => h) (Or.inl ⟨by rfl, ?_⟩) ?_ ?_
    rotate_left
    · intro w'
      go_simp
      with_reducible rfl
    rotate_left
    · simp only [Act.put, List.setIfInBounds_toArray, List.set_cons_zero, List.set_cons_succ, i64_w, i32_w]
      rfl
    refine one_ (i := 3) (N := some 51) #[true, true, true, true, true, false, false, false] rfl rfl (by kernel_rfl) (by decide) (fun K hK => ?_)
    refine goes_ Try.func35 (by kernel_rfl) rfl #[.pointer (some ⟨g, 0, none⟩)] (by rfl) rfl rfl (by simp only [List.map_toArray, List.map_cons, List.map_nil]; rfl) ?_
    with_reducible refine (rd_Bool R14.out HYe.out).mono ?_
    rintro e w15 ⟨rfl, hR, hb, hk⟩
    refine ⟨_, rfl, ?_⟩
    have F15 := Aside0.mk (F14.out.call hb hk)
    have R15 := Aside0.mk hR
    clear hR hb hk
    have mc0 : w15.cell? ⟨gm, 0, none⟩ = some (.int .i64 kx) := (blk_cell F15.out.hm 0).trans rfl
    have mf0 := blk_frozen F15.out.hm 0
    have mc1 : w15.cell? ⟨gm, 1, none⟩ = some (.int .i64 ax) := (blk_cell F15.out.hm 1).trans rfl
    have mf1 := blk_frozen F15.out.hm 1
    have mc2 : w15.cell? ⟨gm, 2, none⟩ = some (.int .i64 bx) := (blk_cell F15.out.hm 2).trans rfl
    have mf2 := blk_frozen F15.out.hm 2
    have mc3 : w15.cell? ⟨gm, 3, none⟩ = some (.int .i64 cx) := (blk_cell F15.out.hm 3).trans rfl
    have mf3 := blk_frozen F15.out.hm 3
    have mc4 : w15.cell? ⟨gm, 4, none⟩ = some (.int .i64 dx) := (blk_cell F15.out.hm 4).trans rfl
    have mf4 := blk_frozen F15.out.hm 4
    have mc5 : w15.cell? ⟨gm, 5, none⟩ = some (.int .i64 fx) := (blk_cell F15.out.hm 5).trans rfl
    have mf5 := blk_frozen F15.out.hm 5
    have mc6 : w15.cell? ⟨gm, 6, none⟩ = some (.int .i64 hx) := (blk_cell F15.out.hm 6).trans rfl
    have mf6 := blk_frozen F15.out.hm 6
    have mc7 : w15.cell? ⟨gm, 7, none⟩ = some (.int .i64 0) := (blk_cell F15.out.hm 7).trans rfl
    have mf7 := blk_frozen F15.out.hm 7
    have mc8 : w15.cell? ⟨gm, 8, none⟩ = some (.bool false) := (blk_cell F15.out.hm 8).trans rfl
    have mf8 := blk_frozen F15.out.hm 8
    have mc9 : w15.cell? ⟨gm, 9, none⟩ = some (.slice none 0 0) := (blk_cell F15.out.hm 9).trans rfl
    have mf9 := blk_frozen F15.out.hm 9
    have mc10 : w15.cell? ⟨gm, 10, none⟩ = some (.slice none 0 0) := (blk_cell F15.out.hm 10).trans rfl
    have mf10 := blk_frozen F15.out.hm 10
    refine hK.out _ _ ((blk_cell (F15.out).hp 0).trans rfl) (fun hHeld => ?_)
    clear hK K
    refine norm_ (a' := ?_) ?_ ?_
    rotate_left
    · show Act.put _ (some 51) _ = _
      simp only [Act.put, List.setIfInBounds_toArray, List.set_cons_zero, List.set_cons_succ, i64_w, i32_w]
      rfl
    refine last_ (i := 5) (N := none) #[true, true, true, true, true, true, false, false] rfl rfl (by kernel_rfl) (by decide) (fun K hK => ?_)
    refine skip_ (w1 := ?_) (by rfl) rfl ?_ ?_
    rotate_left
    · go_simp
      rfl
    refine hK.out _ _ ?_
    clear hK K
    refine pure_ (i := 6) (N := some 53) (v := ?_) (a' := ?_) #[true, true, true, true, true, true, true, false] rfl rfl (by kernel_rfl) (fun _ _ _ h => h) (Or.inl ⟨by rfl, ?_⟩) ?_ ?_
    rotate_left
    · intro w'
      go_simp
      with_reducible rfl
    rotate_left
    · simp only [Act.put, List.setIfInBounds_toArray, List.set_cons_zero, List.set_cons_succ, i64_w, i32_w]
      rfl
    refine last_ (i := 7) (N := none) #[true, true, true, true, true, true, true, true] rfl rfl (by kernel_rfl) (by decide) (fun K hK => ?_)
    refine skip_ (w1 := ?_) (by rfl) rfl ?_ ?_
    rotate_left
    · go_simp
      rfl
    refine hK.out _ _ ?_
    clear hK K
    refine done_ (by kernel_rfl) ?_


    have F16 := Aside0.mk ((F15.out.put 7 (.int .i64 am) (cs' := #[.int .i64 kx, .int .i64 ax, .int .i64 bx, .int .i64 cx, .int .i64 dx, .int .i64 fx, .int .i64 hx, .int .i64 am, .bool false, .slice none 0 0, .slice none 0 0]) rfl).put 8 (.bool ye) (cs' := #[.int .i64 kx, .int .i64 ax, .int .i64 bx, .int .i64 cx, .int .i64 dx, .int .i64 fx, .int .i64 hx, .int .i64 am, .bool ye, .slice none 0 0, .slice none 0 0]) rfl); have R16 := Aside0.mk ((R15.out.set (gx := gm) (by have := F15.out.ne; omega) 7 (.int .i64 am)).set (gx := gm) (by have := F15.out.ne; omega) 8 (.bool ye))
    clear FD RD F14 R14 F15 R15 mc0 mf0 mc1 mf1 mc2 mf2 mc3 mf3 mc4 mf4 mc5 mf5 mc6 mf6 mc7 mf7 mc8 mf8 mc9 mf9 mc10 mf10
    generalize ((w15.setCell ⟨gm, 7, none⟩ (.int .i64 am)).setCell ⟨gm, 8, none⟩ (.bool ye)) = w16 at F16 R16 ⊢
    have pc0 : w16.cell? ⟨gp, 0, none⟩ = some (.pointer (some ⟨g, 0, none⟩)) := (blk_cell F16.out.hp 0).trans rfl
    go_wp2_with fail
    refine (rd_Int 0 1024 R16.out HF10.out).mono ?_; rintro x w17 ⟨rfl, hR, hb, hk⟩; have F17 := Aside0.mk (F16.out.call hb hk); have R17 := Aside0.mk hR; clear hR hb hk
    clear pc0
    go_wp2_with fail
    go_loopg [6] (cnt + 1) (fun kq v6 w' => ∃ (j pp : Nat) (ee : Int) (acc : List S50) (v8 : Value), v6 = .int .i64 (j : Int) ∧ Aside0 (j + 1 = kq ∧ pp ≤ l.length ∧ acc.length + j ≤ 1024) ∧ Aside0 (linesF l cnt (p10, e10) = (acc ++ (linesF l j (pp, ee)).1, (linesF l j (pp, ee)).2)) ∧ Aside0 (IsR 0 w' g l (pp : Int) ee) ∧ Aside0 (FM w w' g gp gr gm #[.int .i64 kx, .int .i64 ax, .int .i64 bx, .int .i64 cx, .int .i64 dx, .int .i64 fx, .int .i64 hx, .int .i64 am, .bool ye, v8, .slice none 0 0]) ∧ Aside0 (Kd.R k50 50 w' w.heap.size (fun k => w.heap.size ≤ k ∧ k ≠ gp ∧ k ≠ gr ∧ k ≠ gm) v8 acc))
    case atStart => exact ⟨cnt, p10, e10, [], .slice none 0 0, rfl, ⟨by omega, HP10.out, by have := HLN.out; simp only [List.length_nil]; omega⟩, ⟨by rw [List.nil_append]⟩, R17, F17, ⟨Kd.R_nil _ _ _ _ _⟩⟩
    case round =>
      obtain ⟨j, pp, ee, acc, v8, rfl, HJ8, HLS, R20, F20, O20⟩ := hrel
      obtain ⟨A8, c8, e8_⟩ := Kd.R_slice O20.out
      subst e8_
      clear F17 R17
      have pc0 : wr.cell? ⟨gp, 0, none⟩ = some (.pointer (some ⟨g, 0, none⟩)) := (blk_cell F20.out.hp 0).trans rfl
      by_cases hj : j = 0
      · subst hj
        have d1 : decide (((0 : Nat) : Int) > 0) = false := by decide
        have d2 : decide ((0 : Int) > 0) = false := by decide
        have HLE := Aside0.mk (show linesF l cnt (p10, e10) = (acc, pp, ee) by rw [HLS.out]; simp [linesF])
        go_wp2_with fail
        obtain ⟨nn, q1, f1, hqn, hpn, hrn, kN, hfn⟩ := rI_ok HL.out BB.out (e := ee) HJ8.out.2.1 8 (by decide)
        obtain ⟨nt, rfl⟩ : ∃ n : Nat, nn = (n : Int) := ⟨nn.toNat, by omega⟩
        have HQN := Aside0.mk hqn; have HPN := Aside0.mk hpn; have HRN := Aside0.mk (show nt ≤ 8 by omega); have HFN := Aside0.mk hfn
        clear hqn hpn hrn hfn
        refine (rd_Int 0 8 R20.out HFN.out).mono ?_; rintro x w30 ⟨rfl, hR, hb, hk⟩; have F30 := Aside0.mk (F20.out.call hb hk); have R30 := Aside0.mk hR; have O30_ := Aside0.mk (Kd.R_bound (Kd.R_keep O20.out hk (fun k q e => by have := q.1; have := G0.out; omega))); clear hR hb hk
        have O30 := Aside0.mk (Kd.R_mono (ok' := fun k => (w.heap.size ≤ k ∧ k ≠ gp ∧ k ≠ gr ∧ k ≠ gm) ∧ k < w30.heap.size) O30_.out (fun k hk => ⟨hk.1, hk.2.2.1⟩))
        have W30 := Aside0.mk F30.out.keep.1
        have LT30 := Aside0.mk (show gp < w30.heap.size ∧ gr < w30.heap.size ∧ gm < w30.heap.size from ⟨blk_lt F30.out.hp, blk_lt F30.out.hr, blk_lt F30.out.hm⟩)
        clear O30_ pc0
        go_wp2_with fail
        go_loopg [8] (nt + 1) (fun kq t8_ w' => ∃ (j pq : Nat) (eq : Int) (nc : List Int) (u9 : Value), t8_ = .int .i64 (j : Int) ∧ Aside0 (j + 1 = kq ∧ pq ≤ l.length ∧ nc.length + j ≤ 8) ∧ Aside0 (netsF l nt (q1, f1) = (nc ++ (netsF l j (pq, eq)).1, (netsF l j (pq, eq)).2)) ∧ Aside0 (IsR 0 w' g l (pq : Int) eq) ∧ Aside0 (FM w w' g gp gr gm #[.int .i64 kx, .int .i64 ax, .int .i64 bx, .int .i64 cx, .int .i64 dx, .int .i64 fx, .int .i64 hx, .int .i64 am, .bool ye, .slice A8 acc.length c8, u9]) ∧ Aside0 (Kd.R k50 50 w' w.heap.size (fun k => (w.heap.size ≤ k ∧ k ≠ gp ∧ k ≠ gr ∧ k ≠ gm) ∧ k < w30.heap.size) (.slice A8 acc.length c8) acc) ∧ Aside0 (Kd.R (Kd.int .i64) 2 w' w.heap.size (fun k => w30.heap.size ≤ k) u9 nc) ∧ Aside0 (w30.heap.size ≤ w'.heap.size))
        case atStart => exact ⟨nt, q1, f1, [], .slice none 0 0, rfl, ⟨by omega, HPN.out, by have := HRN.out; simp only [List.length_nil]; omega⟩, ⟨by rw [List.nil_append]⟩, R30, F30, O30, ⟨Kd.R_nil _ _ _ _ _⟩, ⟨Nat.le_refl _⟩⟩
        case round =>
          obtain ⟨j2, pq, eq, nc, u9, rfl, HJ, HNS, R40, F40, O40, Q40, S40⟩ := hrel
          obtain ⟨A9, c9, e9_⟩ := Kd.R_slice Q40.out
          subst e9_
          clear F30 R30 O30
          have pc0 : wr.cell? ⟨gp, 0, none⟩ = some (.pointer (some ⟨g, 0, none⟩)) := (blk_cell F40.out.hp 0).trans rfl
          by_cases hj2 : j2 = 0
          · subst hj2
            have y1 : decide (((0 : Nat) : Int) > 0) = false := by decide
            have y2 : decide ((0 : Int) > 0) = false := by decide
            have HNE := Aside0.mk (show netsF l nt (q1, f1) = (nc, pq, eq) by rw [HNS.out]; simp [netsF])
            go_wp2_with fail
            refine (rd_Err R40.out (show code_Reader_Err.f l (pq : Int) eq = some (eq, (pq : Int), eq) from rfl)).mono ?_; rintro x w50 ⟨rfl, hR, hb, hk⟩; have F50 := Aside0.mk (F40.out.call hb hk); have R50 := Aside0.mk hR; have O50 := Aside0.mk (Kd.R_keep O40.out hk (fun k q e => by have := q.1.1; have := G0.out; omega)); have Q50 := Aside0.mk (Kd.R_keep Q40.out hk (fun k q e => by have := W30.out; have := G0.out; omega)); clear hR hb hk
            clear pc0
            by_cases hz : eq = 0
            · have z1 : (eq != 0) = false := bne_eq_false_iff_eq.mpr hz
              have HFR := Aside0.mk (show fromF l (p0, e0) = (⟨kx, ⟨ax, bx⟩, cx, dx, fx, hx, am, ye, acc, nc⟩, 0, pq, eq) by unfold fromF; simp only [HQ1.out, HQ2.out, HQ3.out, HQ4.out, HQ5.out, HQ6.out, HQ7.out, HQ8.out, HQ9.out, HQ10.out, Int.toNat_natCast, HLE.out, HQN.out, HNE.out]; rw [if_neg HOK.out, if_pos hz])
              clear hz
              have mc0 : w50.cell? ⟨gm, 0, none⟩ = some (.int .i64 kx) := (blk_cell F50.out.hm 0).trans rfl; have mf0 := blk_frozen F50.out.hm 0; have mc1 : w50.cell? ⟨gm, 1, none⟩ = some (.int .i64 ax) := (blk_cell F50.out.hm 1).trans rfl; have mf1 := blk_frozen F50.out.hm 1; have mc2 : w50.cell? ⟨gm, 2, none⟩ = some (.int .i64 bx) := (blk_cell F50.out.hm 2).trans rfl; have mf2 := blk_frozen F50.out.hm 2; have mc3 : w50.cell? ⟨gm, 3, none⟩ = some (.int .i64 cx) := (blk_cell F50.out.hm 3).trans rfl; have mf3 := blk_frozen F50.out.hm 3; have mc4 : w50.cell? ⟨gm, 4, none⟩ = some (.int .i64 dx) := (blk_cell F50.out.hm 4).trans rfl; have mf4 := blk_frozen F50.out.hm 4; have mc5 : w50.cell? ⟨gm, 5, none⟩ = some (.int .i64 fx) := (blk_cell F50.out.hm 5).trans rfl; have mf5 := blk_frozen F50.out.hm 5; have mc6 : w50.cell? ⟨gm, 6, none⟩ = some (.int .i64 hx) := (blk_cell F50.out.hm 6).trans rfl; have mf6 := blk_frozen F50.out.hm 6; have mc7 : w50.cell? ⟨gm, 7, none⟩ = some (.int .i64 am) := (blk_cell F50.out.hm 7).trans rfl; have mf7 := blk_frozen F50.out.hm 7; have mc8 : w50.cell? ⟨gm, 8, none⟩ = some (.bool ye) := (blk_cell F50.out.hm 8).trans rfl; have mf8 := blk_frozen F50.out.hm 8; have mc9 : w50.cell? ⟨gm, 9, none⟩ = some (.slice A8 acc.length c8) := (blk_cell F50.out.hm 9).trans rfl; have mf9 := blk_frozen F50.out.hm 9; have mc10 : w50.cell? ⟨gm, 10, none⟩ = some (.slice A9 nc.length c9) := (blk_cell F50.out.hm 10).trans rfl; have mf10 := blk_frozen F50.out.hm 10
              have rc0 : w50.cell? ⟨gr, 0, none⟩ = some (.int .i64 0) := (blk_cell F50.out.hr 0).trans rfl; have rf0 := blk_frozen F50.out.hr 0; have rc1 : w50.cell? ⟨gr, 1, none⟩ = some (.int .i64 0) := (blk_cell F50.out.hr 1).trans rfl; have rf1 := blk_frozen F50.out.hr 1; have rc2 : w50.cell? ⟨gr, 2, none⟩ = some (.int .i64 0) := (blk_cell F50.out.hr 2).trans rfl; have rf2 := blk_frozen F50.out.hr 2; have rc3 : w50.cell? ⟨gr, 3, none⟩ = some (.int .i64 0) := (blk_cell F50.out.hr 3).trans rfl; have rf3 := blk_frozen F50.out.hr 3; have rc4 : w50.cell? ⟨gr, 4, none⟩ = some (.int .i64 0) := (blk_cell F50.out.hr 4).trans rfl; have rf4 := blk_frozen F50.out.hr 4; have rc5 : w50.cell? ⟨gr, 5, none⟩ = some (.int .i64 0) := (blk_cell F50.out.hr 5).trans rfl; have rf5 := blk_frozen F50.out.hr 5; have rc6 : w50.cell? ⟨gr, 6, none⟩ = some (.int .i64 0) := (blk_cell F50.out.hr 6).trans rfl; have rf6 := blk_frozen F50.out.hr 6; have rc7 : w50.cell? ⟨gr, 7, none⟩ = some (.int .i64 0) := (blk_cell F50.out.hr 7).trans rfl; have rf7 := blk_frozen F50.out.hr 7; have rc8 : w50.cell? ⟨gr, 8, none⟩ = some (.bool false) := (blk_cell F50.out.hr 8).trans rfl; have rf8 := blk_frozen F50.out.hr 8; have rc9 : w50.cell? ⟨gr, 9, none⟩ = some (.slice none 0 0) := (blk_cell F50.out.hr 9).trans rfl; have rf9 := blk_frozen F50.out.hr 9; have rc10 : w50.cell? ⟨gr, 10, none⟩ = some (.slice none 0 0) := (blk_cell F50.out.hr 10).trans rfl; have rf10 := blk_frozen F50.out.hr 10
              go_wp2_with fail
              refine bodyPost_ret (results_ct rfl _ _ gr 28 #[.int .i64 kx, .int .i64 ax, .int .i64 bx, .int .i64 cx, .int .i64 dx, .int .i64 fx, .int .i64 hx, .int .i64 am, .bool ye, .slice A8 acc.length c8, .slice A9 nc.length c9] (0, 0) _ rfl (set11_blk F50.out.hr (.int .i64 kx) (.int .i64 ax) (.int .i64 bx) (.int .i64 cx) (.int .i64 dx) (.int .i64 fx) (.int .i64 hx) (.int .i64 am) (.bool ye) (.slice A8 acc.length c8) (.slice A9 nc.length c9)) Try.underlying28 rfl (by kernel_rfl)) rfl ?_
              rw [HFR.out]
              exact ⟨set11_far (g := gr) F50.out.keep (by have := F50.out.ne; omega) (.int .i64 kx) (.int .i64 ax) (.int .i64 bx) (.int .i64 cx) (.int .i64 dx) (.int .i64 fx) (.int .i64 hx) (.int .i64 am) (.bool ye) (.slice A8 acc.length c8) (.slice A9 nc.length c9), set11_below (g := gr) F50.out.bel (by have := F50.out.ne; omega) (.int .i64 kx) (.int .i64 ax) (.int .i64 bx) (.int .i64 cx) (.int .i64 dx) (.int .i64 fx) (.int .i64 hx) (.int .i64 am) (.bool ye) (.slice A8 acc.length c8) (.slice A9 nc.length c9), R50.out.kept (set11_kept w50 gr (.int .i64 kx) (.int .i64 ax) (.int .i64 bx) (.int .i64 cx) (.int .i64 dx) (.int .i64 fx) (.int .i64 hx) (.int .i64 am) (.bool ye) (.slice A8 acc.length c8) (.slice A9 nc.length c9)) (fun k hk => by subst hk; have := F50.out.ne; exact ⟨by omega, .inl (by omega)⟩), _, _, rfl, Kd.R_mono (Kd.R_kept O50.out (set11_kept w50 gr (.int .i64 kx) (.int .i64 ax) (.int .i64 bx) (.int .i64 cx) (.int .i64 dx) (.int .i64 fx) (.int .i64 hx) (.int .i64 am) (.bool ye) (.slice A8 acc.length c8) (.slice A9 nc.length c9)) (fun k hk e => hk.1.2.2.1 e)) (fun _ _ => trivial), Kd.R_mono (Kd.R_kept Q50.out (set11_kept w50 gr (.int .i64 kx) (.int .i64 ax) (.int .i64 bx) (.int .i64 cx) (.int .i64 dx) (.int .i64 fx) (.int .i64 hx) (.int .i64 am) (.bool ye) (.slice A8 acc.length c8) (.slice A9 nc.length c9)) (fun k hk e => by subst e; exact absurd LT30.out.2.1 (Nat.not_lt.mpr hk))) (fun k hk e => absurd (O50.out.1 k e.symm).2 (Nat.not_lt.mpr hk))⟩
            have z1 : (eq != 0) = true := bne_iff_ne.mpr hz
            have HFR := Aside0.mk (show fromF l (p0, e0) = (z28, eq, pq, eq) by unfold fromF; simp only [HQ1.out, HQ2.out, HQ3.out, HQ4.out, HQ5.out, HQ6.out, HQ7.out, HQ8.out, HQ9.out, HQ10.out, Int.toNat_natCast, HLE.out, HQN.out, HNE.out]; rw [if_neg HOK.out, if_neg hz])
            clear hz
            have rc0 : w50.cell? ⟨gr, 0, none⟩ = some (.int .i64 0) := (blk_cell F50.out.hr 0).trans rfl; have rf0 := blk_frozen F50.out.hr 0; have rc1 : w50.cell? ⟨gr, 1, none⟩ = some (.int .i64 0) := (blk_cell F50.out.hr 1).trans rfl; have rf1 := blk_frozen F50.out.hr 1; have rc2 : w50.cell? ⟨gr, 2, none⟩ = some (.int .i64 0) := (blk_cell F50.out.hr 2).trans rfl; have rf2 := blk_frozen F50.out.hr 2; have rc3 : w50.cell? ⟨gr, 3, none⟩ = some (.int .i64 0) := (blk_cell F50.out.hr 3).trans rfl; have rf3 := blk_frozen F50.out.hr 3; have rc4 : w50.cell? ⟨gr, 4, none⟩ = some (.int .i64 0) := (blk_cell F50.out.hr 4).trans rfl; have rf4 := blk_frozen F50.out.hr 4; have rc5 : w50.cell? ⟨gr, 5, none⟩ = some (.int .i64 0) := (blk_cell F50.out.hr 5).trans rfl; have rf5 := blk_frozen F50.out.hr 5; have rc6 : w50.cell? ⟨gr, 6, none⟩ = some (.int .i64 0) := (blk_cell F50.out.hr 6).trans rfl; have rf6 := blk_frozen F50.out.hr 6; have rc7 : w50.cell? ⟨gr, 7, none⟩ = some (.int .i64 0) := (blk_cell F50.out.hr 7).trans rfl; have rf7 := blk_frozen F50.out.hr 7; have rc8 : w50.cell? ⟨gr, 8, none⟩ = some (.bool false) := (blk_cell F50.out.hr 8).trans rfl; have rf8 := blk_frozen F50.out.hr 8; have rc9 : w50.cell? ⟨gr, 9, none⟩ = some (.slice none 0 0) := (blk_cell F50.out.hr 9).trans rfl; have rf9 := blk_frozen F50.out.hr 9; have rc10 : w50.cell? ⟨gr, 10, none⟩ = some (.slice none 0 0) := (blk_cell F50.out.hr 10).trans rfl; have rf10 := blk_frozen F50.out.hr 10
            go_wp2_with fail
            refine bodyPost_ret (results_ct rfl _ _ gr 28 #[.int .i64 0, .int .i64 0, .int .i64 0, .int .i64 0, .int .i64 0, .int .i64 0, .int .i64 0, .int .i64 0, .bool false, .slice none 0 0, .slice none 0 0] (0, 0) _ rfl (set11_blk F50.out.hr (.int .i64 0) (.int .i64 0) (.int .i64 0) (.int .i64 0) (.int .i64 0) (.int .i64 0) (.int .i64 0) (.int .i64 0) (.bool false) (.slice none 0 0) (.slice none 0 0)) Try.underlying28 rfl (by kernel_rfl)) rfl ?_
            rw [HFR.out]
            refine ⟨set11_far (g := gr) F50.out.keep (by have := F50.out.ne; omega) (.int .i64 0) (.int .i64 0) (.int .i64 0) (.int .i64 0) (.int .i64 0) (.int .i64 0) (.int .i64 0) (.int .i64 0) (.bool false) (.slice none 0 0) (.slice none 0 0), set11_below (g := gr) F50.out.bel (by have := F50.out.ne; omega) (.int .i64 0) (.int .i64 0) (.int .i64 0) (.int .i64 0) (.int .i64 0) (.int .i64 0) (.int .i64 0) (.int .i64 0) (.bool false) (.slice none 0 0) (.slice none 0 0), R50.out.kept (set11_kept w50 gr (.int .i64 0) (.int .i64 0) (.int .i64 0) (.int .i64 0) (.int .i64 0) (.int .i64 0) (.int .i64 0) (.int .i64 0) (.bool false) (.slice none 0 0) (.slice none 0 0)) (fun k hk => by subst hk; have := F50.out.ne; exact ⟨by omega, .inl (by omega)⟩), .slice none 0 0, .slice none 0 0, rfl, Kd.R_nil _ _ _ _ _, Kd.R_nil _ _ _ _ _⟩
          have y1 : decide ((j2 : Int) > 0) = true := decide_eq_true (by omega)
          have y2 : decide (0 < (j2 : Int)) = true := decide_eq_true (by omega)
          have y3 : decide (0 < j2) = true := decide_eq_true (by omega)
          have y4 := eq_true (show 0 < j2 by omega)
          by_cases hq : eq = 0
          · have y5 : (eq == 0) = true := beq_iff_eq.mpr hq
            obtain ⟨i2, rfl⟩ : ∃ i, j2 = i + 1 := ⟨j2 - 1, by omega⟩
            obtain ⟨nx, pn, en, hqx, hpx, kx5, hfx⟩ := rN_ok HL.out BB.out (e := eq) HJ.out.2.1
            have hstep : netsF l (i2 + 1) (pq, eq) = (nx :: (netsF l i2 (pn, en)).1, (netsF l i2 (pn, en)).2) := by
              simp only [netsF, hq, if_true]
              rw [hq] at hqx
              simp only [hqx]
            have HNX := Aside0.mk (show netsF l nt (q1, f1) = ((nc ++ [nx]) ++ (netsF l i2 (pn, en)).1, (netsF l i2 (pn, en)).2) by rw [HNS.out, hstep]; simp)
            have HA5 := Aside0.mk hfx; have HPX := Aside0.mk hpx
            have b2 : wrap64 (((i2 + 1 : Nat) : Int) - 1) = (i2 : Int) := by have := HJ.out; unfold wrap64; omega
            have b3 : wrap64 ((i2 : Int) + 1 - 1) = (i2 : Int) := by have := HJ.out; unfold wrap64; omega
            have b4 : wrap64 (i2 : Int) = (i2 : Int) := by have := HJ.out; unfold wrap64; omega
            have y6 : decide ((i2 : Int) + 1 > 0) = true := decide_eq_true (by omega)
            have y7 : decide (0 < (i2 : Int) + 1) = true := decide_eq_true (by omega)
            clear hq hj2 hqx hpx hfx hstep
            go_wp2_with fail
            refine (rd_Err R40.out (show code_Reader_Err.f l (pq : Int) eq = some (eq, (pq : Int), eq) from rfl)).mono ?_; rintro x w41 ⟨rfl, hR, hb, hk⟩; have F41 := Aside0.mk (F40.out.call hb hk); have R41 := Aside0.mk hR; have O41 := Aside0.mk (Kd.R_keep O40.out hk (fun k q e => by have := q.1.1; have := G0.out; omega)); have Q41 := Aside0.mk (Kd.R_keep Q40.out hk (fun k q e => by have := W30.out; have := G0.out; omega)); have S41 := Aside0.mk (Nat.le_trans S40.out hk.1); clear hR hb hk
            clear pc0
            go_wp2_with fail
            refine start_ (n := 8) (S := fun w' => w'.cell? ⟨gp, 0, none⟩ = some (.pointer (some ⟨g, 0, none⟩)) ∧ w'.cell? ⟨gm, 10, none⟩ = some (.slice A9 nc.length c9)) (ds := [7]) #[false, false, false, false, false, false, false, false] (by kernel_rfl) rfl rfl ⟨(blk_cell (F41.out.drew).hp 0).trans rfl, (blk_cell (F41.out.drew).hm 10).trans rfl⟩ (fun hHeld => ?_)
            refine pure_ (i := 0) (N := some 96) (v := ?_) (a' := ?_) #[true, false, false, false, false, false, false, false] rfl rfl (by kernel_rfl) (fun _ _ _ h => h) (Or.inl ⟨by rfl, ?_⟩) ?_ ?_
            rotate_left
            · intro w'
              go_simp
              with_reducible rfl
            rotate_left
            · simp only [Act.put, List.setIfInBounds_toArray, List.set_cons_zero, List.set_cons_succ, i64_w, i32_w]
              rfl
            refine take_ (i := 1) (N := some 97) (v := ?_) (a' := ?_) #[true, true, false, false, false, false, false, false] rfl rfl (by kernel_rfl) (fun _ _ _ h => h) (Or.inl ⟨by rfl, ?_⟩) hHeld ?_ ?_
            rotate_left
            · rintro w' ⟨s0, s1⟩
              go_simp
              with_reducible rfl
            rotate_left
            · simp only [Act.put, List.setIfInBounds_toArray, List.set_cons_zero, List.set_cons_succ, i64_w, i32_w]
              rfl
            refine take_ (i := 2) (N := some 98) (v := ?_) (a' := ?_) #[true, true, true, false, false, false, false, false] rfl rfl (by kernel_rfl) (fun _ _ _ h => h) (Or.inl ⟨by rfl, ?_⟩) hHeld ?_ ?_
            rotate_left
            · rintro w' ⟨s0, s1⟩
              go_simp
              with_reducible rfl
            rotate_left
            · simp only [Act.put, List.setIfInBounds_toArray, List.set_cons_zero, List.set_cons_succ, i64_w, i32_w]
              rfl
            refine one_ (i := 3) (N := some 99) #[true, true, true, true, false, false, false, false] rfl rfl (by kernel_rfl) (by decide) (fun K hK => ?_)
            refine goes_ Try.func34 (by kernel_rfl) rfl #[.pointer (some ⟨g, 0, none⟩)] (by rfl) rfl rfl (by simp only [List.map_toArray, List.map_cons, List.map_nil]; rfl) ?_
            with_reducible refine (rd_Num (w := w41.drew) R41.out.drew HA5.out).mono ?_
            rintro e w42 ⟨rfl, hR, hb, hk⟩
            refine ⟨_, rfl, ?_⟩
            have F42 := Aside0.mk (F41.out.drew.call hb hk)
            have R42 := Aside0.mk hR
            have O42 := Aside0.mk (Kd.R_keep (Kd.R_drew O41.out) hk (fun k q e => by have := q.1.1; have := G0.out; omega))
            have Q42 := Aside0.mk (Kd.R_keep (Kd.R_drew Q41.out) hk (fun k q e => by have := W30.out; have := G0.out; omega))
            have S42 := Aside0.mk (Nat.le_trans S41.out hk.1)
            clear hR hb hk
            refine hK.out _ _ ⟨(blk_cell (F42.out).hp 0).trans rfl, (blk_cell (F42.out).hm 10).trans rfl⟩ (fun hHeld => ?_)
            clear hK K
            refine norm_ (a' := ?_) ?_ ?_
            rotate_left
            · show Act.put _ (some 99) _ = _
              simp only [Act.put, List.setIfInBounds_toArray, List.set_cons_zero, List.set_cons_succ, i64_w, i32_w]
              rfl
            refine one_ (i := 4) (N := some 100) #[true, true, true, true, true, false, false, false] rfl rfl (by kernel_rfl) (by decide) (fun K hK => ?_)
            refine Kd.R_lit_step (Kd.int .i64) (w0 := w42) w42.heap.size 2 (by rfl) (N := 100) ?hd (xs := [nx]) (inner := [.int .i64 nx]) (ok := fun _ => True) (okp := fun _ => True) ?hr ?hp (fun _ hk => hk) trivial (Below.refl _ _) (Nat.le_refl _) (by simp) ?_
            (case hd => rfl)
            (case hr => first | (go_simp; done) | (go_simp; rfl))
            (case hp => exact (Reps.one (show Kd.M (Kd.int .i64) _ _ _ nx [.int .i64 nx] from rfl) (Reps.none _ _)))
            intro vL w43 hoL hb hg_ hnew_
            obtain ⟨AL, cL, eL, hcL, hrL⟩ := Kd.R_reads hoL
            subst eL
            have RL := Aside0.mk hrL
            have F43 := Aside0.mk (F42.out.below hb)
            have R43 := Aside0.mk (R42.out.below hb)
            have O43 := Aside0.mk (Kd.R_below O42.out hb)
            have Q43 := Aside0.mk (Kd.R_below Q42.out hb)
            have S43 := Aside0.mk (Nat.le_trans S42.out hb.size)
            clear hoL hb hg_ hnew_ hcL hrL
            refine hK.out _ _ ⟨(blk_cell (F43.out).hp 0).trans rfl, (blk_cell (F43.out).hm 10).trans rfl⟩ (fun hHeld => ?_)
            clear hK K
            refine norm_ (a' := ?_) ?_ ?_
            rotate_left
            · show Act.put _ (some 100) _ = _
              simp only [Act.put, List.setIfInBounds_toArray, List.set_cons_zero, List.set_cons_succ, i64_w, i32_w]
              rfl
            refine one_ (i := 5) (N := some 101) #[true, true, true, true, true, true, false, false] rfl rfl (by kernel_rfl) (by decide) (fun K hK => ?_)
            refine Kd.R_append_rows_step (Kd.int .i64) (w0 := w43) w.heap.size (by rfl) (.tmp 97) (.tmp 100) 26 2 (.int .i64 0) 8 rfl Try.underlying26 info2 rfl (by decide) (by omega) (.slice A9 nc.length c9) nc [nx] _ _ _ (fun k => w30.heap.size ≤ k) (fun _ => False) rfl rfl ?aO ?aR (fun _ _ h => h) (fun _ h => h.elim) ?aF ?aB ?aS ?aL ?_
            (case aR => exact RL.out)
            (case aB => exact Below.refl _ _)
            (case aF => exact (fun k hk => Nat.le_trans S43.out hk))
            (case aO => exact Q43.out)
            (case aS => exact Nat.le_trans W30.out S43.out)
            (case aL => have := HJ.out; simp only [List.length_singleton]; omega)
            intro v44 w44 ho hb hg hat
            obtain ⟨A44, c44, e44⟩ := Kd.R_slice ho
            subst e44
            rw [List.length_append, List.length_singleton] at ho
            have Q44 := Aside0.mk ho
            have hne := (fun k (e : some k = (Value.slice A9 nc.length c9).ownBlock) => Q43.out.1 k e.symm)
            have F44 := Aside0.mk (F43.out.grown hb hg (fun e => Nat.not_lt.mpr (hne _ e) LT30.out.1) (fun e => Nat.not_lt.mpr (hne _ e) LT30.out.2.1) (fun e => Nat.not_lt.mpr (hne _ e) LT30.out.2.2))
            have R44 := Aside0.mk (R43.out.grown hb G0.out)
            have O44 := Aside0.mk (Kd.R_grown O43.out hg (fun k hk e => Nat.not_lt.mpr (hne _ e) hk.2))
            have S44 := Aside0.mk (Nat.le_trans S43.out hg.size)
            clear ho hb hg hat hne
            have mc0 : w44.cell? ⟨gm, 0, none⟩ = some (.int .i64 kx) := (blk_cell F44.out.hm 0).trans rfl
            have mf0 := blk_frozen F44.out.hm 0
            have mc1 : w44.cell? ⟨gm, 1, none⟩ = some (.int .i64 ax) := (blk_cell F44.out.hm 1).trans rfl
            have mf1 := blk_frozen F44.out.hm 1
            have mc2 : w44.cell? ⟨gm, 2, none⟩ = some (.int .i64 bx) := (blk_cell F44.out.hm 2).trans rfl
            have mf2 := blk_frozen F44.out.hm 2
            have mc3 : w44.cell? ⟨gm, 3, none⟩ = some (.int .i64 cx) := (blk_cell F44.out.hm 3).trans rfl
            have mf3 := blk_frozen F44.out.hm 3
            have mc4 : w44.cell? ⟨gm, 4, none⟩ = some (.int .i64 dx) := (blk_cell F44.out.hm 4).trans rfl
            have mf4 := blk_frozen F44.out.hm 4
            have mc5 : w44.cell? ⟨gm, 5, none⟩ = some (.int .i64 fx) := (blk_cell F44.out.hm 5).trans rfl
            have mf5 := blk_frozen F44.out.hm 5
            have mc6 : w44.cell? ⟨gm, 6, none⟩ = some (.int .i64 hx) := (blk_cell F44.out.hm 6).trans rfl
            have mf6 := blk_frozen F44.out.hm 6
            have mc7 : w44.cell? ⟨gm, 7, none⟩ = some (.int .i64 am) := (blk_cell F44.out.hm 7).trans rfl
            have mf7 := blk_frozen F44.out.hm 7
            have mc8 : w44.cell? ⟨gm, 8, none⟩ = some (.bool ye) := (blk_cell F44.out.hm 8).trans rfl
            have mf8 := blk_frozen F44.out.hm 8
            have mc9 : w44.cell? ⟨gm, 9, none⟩ = some (.slice A8 acc.length c8) := (blk_cell F44.out.hm 9).trans rfl
            have mf9 := blk_frozen F44.out.hm 9
            have mc10 : w44.cell? ⟨gm, 10, none⟩ = some (.slice A9 nc.length c9) := (blk_cell F44.out.hm 10).trans rfl
            have mf10 := blk_frozen F44.out.hm 10
            refine hK.out _ _ ⟨(blk_cell (F44.out).hp 0).trans rfl, (blk_cell (F44.out).hm 10).trans rfl⟩ (fun hHeld => ?_)
            clear hK K
            refine norm_ (a' := ?_) ?_ ?_
            rotate_left
            · show Act.put _ (some 101) _ = _
              simp only [Act.put, List.setIfInBounds_toArray, List.set_cons_zero, List.set_cons_succ, i64_w, i32_w]
              rfl
            refine pure_ (i := 6) (N := some 102) (v := ?_) (a' := ?_) #[true, true, true, true, true, true, true, false] rfl rfl (by kernel_rfl) (fun _ _ _ h => h) (Or.inl ⟨by rfl, ?_⟩) ?_ ?_
            rotate_left
            · intro w'
              go_simp
              with_reducible rfl
            rotate_left
            · simp only [Act.put, List.setIfInBounds_toArray, List.set_cons_zero, List.set_cons_succ, i64_w, i32_w]
              rfl
            refine last_ (i := 7) (N := none) #[true, true, true, true, true, true, true, true] rfl rfl (by kernel_rfl) (by decide) (fun K hK => ?_)
            refine skip_ (w1 := ?_) (by rfl) rfl ?_ ?_
            rotate_left
            · go_simp
              rfl
            refine hK.out _ _ ?_
            clear hK K
            refine done_ (by kernel_rfl) ?_


            go_wp2_with fail
            go_roundg (gk - 1)
            case measure => have := HJ.out; omega
            case rel => exact ⟨i2, pn, en, nc ++ [nx], _, (by first | rw [b2] | rw [b3] | rw [b4] | rfl), ⟨by have := HJ.out; omega, HPX.out, by have := HJ.out; simp only [List.length_append, List.length_singleton]; omega⟩, HNX, ⟨R44.out.set (gx := gm) (by have := F44.out.ne; omega) 10 _⟩, ⟨F44.out.put 10 _ rfl⟩, ⟨Kd.R_kept O44.out ((Kept.refl w44 (fun k => k = gm)).setCell (p := ⟨gm, 10, none⟩) (.inl rfl) _) (fun k hk e => hk.1.2.2.2 e)⟩, ⟨Kd.R_kept Q44.out ((Kept.refl w44 (fun k => k = gm)).setCell (p := ⟨gm, 10, none⟩) (.inl rfl) _) (fun k hk e => by subst e; exact absurd LT30.out.2.2 (Nat.not_lt.mpr hk))⟩, ⟨by simpa [World.setCell] using S44.out⟩⟩
          have y5 : (eq == 0) = false := beq_eq_false_iff_ne.mpr hq
          have HNE := Aside0.mk (show netsF l nt (q1, f1) = (nc, pq, eq) by rw [HNS.out]; obtain ⟨i, rfl⟩ : ∃ i, j2 = i + 1 := ⟨j2 - 1, by omega⟩; simp [netsF, hq])
          clear hq hj2
          go_wp2_with fail
          refine (rd_Err R40.out (show code_Reader_Err.f l (pq : Int) eq = some (eq, (pq : Int), eq) from rfl)).mono ?_; rintro x w41 ⟨rfl, hR, hb, hk⟩; have F41 := Aside0.mk (F40.out.call hb hk); have R41 := Aside0.mk hR; have O41 := Aside0.mk (Kd.R_keep O40.out hk (fun k q e => by have := q.1.1; have := G0.out; omega)); have Q41 := Aside0.mk (Kd.R_keep Q40.out hk (fun k q e => by have := W30.out; have := G0.out; omega)); clear hR hb hk
          clear pc0
          have pc0 : w41.cell? ⟨gp, 0, none⟩ = some (.pointer (some ⟨g, 0, none⟩)) := (blk_cell F41.out.hp 0).trans rfl
          go_wp2_with fail
          refine (rd_Err R41.out (show code_Reader_Err.f l (pq : Int) eq = some (eq, (pq : Int), eq) from rfl)).mono ?_; rintro x w50 ⟨rfl, hR, hb, hk⟩; have F50 := Aside0.mk (F41.out.call hb hk); have R50 := Aside0.mk hR; have O50 := Aside0.mk (Kd.R_keep O41.out hk (fun k q e => by have := q.1.1; have := G0.out; omega)); have Q50 := Aside0.mk (Kd.R_keep Q41.out hk (fun k q e => by have := W30.out; have := G0.out; omega)); clear hR hb hk
          clear pc0
          by_cases hz : eq = 0
          · have z1 : (eq != 0) = false := bne_eq_false_iff_eq.mpr hz
            have HFR := Aside0.mk (show fromF l (p0, e0) = (⟨kx, ⟨ax, bx⟩, cx, dx, fx, hx, am, ye, acc, nc⟩, 0, pq, eq) by unfold fromF; simp only [HQ1.out, HQ2.out, HQ3.out, HQ4.out, HQ5.out, HQ6.out, HQ7.out, HQ8.out, HQ9.out, HQ10.out, Int.toNat_natCast, HLE.out, HQN.out, HNE.out]; rw [if_neg HOK.out, if_pos hz])
            clear hz
            have mc0 : w50.cell? ⟨gm, 0, none⟩ = some (.int .i64 kx) := (blk_cell F50.out.hm 0).trans rfl; have mf0 := blk_frozen F50.out.hm 0; have mc1 : w50.cell? ⟨gm, 1, none⟩ = some (.int .i64 ax) := (blk_cell F50.out.hm 1).trans rfl; have mf1 := blk_frozen F50.out.hm 1; have mc2 : w50.cell? ⟨gm, 2, none⟩ = some (.int .i64 bx) := (blk_cell F50.out.hm 2).trans rfl; have mf2 := blk_frozen F50.out.hm 2; have mc3 : w50.cell? ⟨gm, 3, none⟩ = some (.int .i64 cx) := (blk_cell F50.out.hm 3).trans rfl; have mf3 := blk_frozen F50.out.hm 3; have mc4 : w50.cell? ⟨gm, 4, none⟩ = some (.int .i64 dx) := (blk_cell F50.out.hm 4).trans rfl; have mf4 := blk_frozen F50.out.hm 4; have mc5 : w50.cell? ⟨gm, 5, none⟩ = some (.int .i64 fx) := (blk_cell F50.out.hm 5).trans rfl; have mf5 := blk_frozen F50.out.hm 5; have mc6 : w50.cell? ⟨gm, 6, none⟩ = some (.int .i64 hx) := (blk_cell F50.out.hm 6).trans rfl; have mf6 := blk_frozen F50.out.hm 6; have mc7 : w50.cell? ⟨gm, 7, none⟩ = some (.int .i64 am) := (blk_cell F50.out.hm 7).trans rfl; have mf7 := blk_frozen F50.out.hm 7; have mc8 : w50.cell? ⟨gm, 8, none⟩ = some (.bool ye) := (blk_cell F50.out.hm 8).trans rfl; have mf8 := blk_frozen F50.out.hm 8; have mc9 : w50.cell? ⟨gm, 9, none⟩ = some (.slice A8 acc.length c8) := (blk_cell F50.out.hm 9).trans rfl; have mf9 := blk_frozen F50.out.hm 9; have mc10 : w50.cell? ⟨gm, 10, none⟩ = some (.slice A9 nc.length c9) := (blk_cell F50.out.hm 10).trans rfl; have mf10 := blk_frozen F50.out.hm 10
            have rc0 : w50.cell? ⟨gr, 0, none⟩ = some (.int .i64 0) := (blk_cell F50.out.hr 0).trans rfl; have rf0 := blk_frozen F50.out.hr 0; have rc1 : w50.cell? ⟨gr, 1, none⟩ = some (.int .i64 0) := (blk_cell F50.out.hr 1).trans rfl; have rf1 := blk_frozen F50.out.hr 1; have rc2 : w50.cell? ⟨gr, 2, none⟩ = some (.int .i64 0) := (blk_cell F50.out.hr 2).trans rfl; have rf2 := blk_frozen F50.out.hr 2; have rc3 : w50.cell? ⟨gr, 3, none⟩ = some (.int .i64 0) := (blk_cell F50.out.hr 3).trans rfl; have rf3 := blk_frozen F50.out.hr 3; have rc4 : w50.cell? ⟨gr, 4, none⟩ = some (.int .i64 0) := (blk_cell F50.out.hr 4).trans rfl; have rf4 := blk_frozen F50.out.hr 4; have rc5 : w50.cell? ⟨gr, 5, none⟩ = some (.int .i64 0) := (blk_cell F50.out.hr 5).trans rfl; have rf5 := blk_frozen F50.out.hr 5; have rc6 : w50.cell? ⟨gr, 6, none⟩ = some (.int .i64 0) := (blk_cell F50.out.hr 6).trans rfl; have rf6 := blk_frozen F50.out.hr 6; have rc7 : w50.cell? ⟨gr, 7, none⟩ = some (.int .i64 0) := (blk_cell F50.out.hr 7).trans rfl; have rf7 := blk_frozen F50.out.hr 7; have rc8 : w50.cell? ⟨gr, 8, none⟩ = some (.bool false) := (blk_cell F50.out.hr 8).trans rfl; have rf8 := blk_frozen F50.out.hr 8; have rc9 : w50.cell? ⟨gr, 9, none⟩ = some (.slice none 0 0) := (blk_cell F50.out.hr 9).trans rfl; have rf9 := blk_frozen F50.out.hr 9; have rc10 : w50.cell? ⟨gr, 10, none⟩ = some (.slice none 0 0) := (blk_cell F50.out.hr 10).trans rfl; have rf10 := blk_frozen F50.out.hr 10
            go_wp2_with fail
            refine bodyPost_ret (results_ct rfl _ _ gr 28 #[.int .i64 kx, .int .i64 ax, .int .i64 bx, .int .i64 cx, .int .i64 dx, .int .i64 fx, .int .i64 hx, .int .i64 am, .bool ye, .slice A8 acc.length c8, .slice A9 nc.length c9] (0, 0) _ rfl (set11_blk F50.out.hr (.int .i64 kx) (.int .i64 ax) (.int .i64 bx) (.int .i64 cx) (.int .i64 dx) (.int .i64 fx) (.int .i64 hx) (.int .i64 am) (.bool ye) (.slice A8 acc.length c8) (.slice A9 nc.length c9)) Try.underlying28 rfl (by kernel_rfl)) rfl ?_
            rw [HFR.out]
            exact ⟨set11_far (g := gr) F50.out.keep (by have := F50.out.ne; omega) (.int .i64 kx) (.int .i64 ax) (.int .i64 bx) (.int .i64 cx) (.int .i64 dx) (.int .i64 fx) (.int .i64 hx) (.int .i64 am) (.bool ye) (.slice A8 acc.length c8) (.slice A9 nc.length c9), set11_below (g := gr) F50.out.bel (by have := F50.out.ne; omega) (.int .i64 kx) (.int .i64 ax) (.int .i64 bx) (.int .i64 cx) (.int .i64 dx) (.int .i64 fx) (.int .i64 hx) (.int .i64 am) (.bool ye) (.slice A8 acc.length c8) (.slice A9 nc.length c9), R50.out.kept (set11_kept w50 gr (.int .i64 kx) (.int .i64 ax) (.int .i64 bx) (.int .i64 cx) (.int .i64 dx) (.int .i64 fx) (.int .i64 hx) (.int .i64 am) (.bool ye) (.slice A8 acc.length c8) (.slice A9 nc.length c9)) (fun k hk => by subst hk; have := F50.out.ne; exact ⟨by omega, .inl (by omega)⟩), _, _, rfl, Kd.R_mono (Kd.R_kept O50.out (set11_kept w50 gr (.int .i64 kx) (.int .i64 ax) (.int .i64 bx) (.int .i64 cx) (.int .i64 dx) (.int .i64 fx) (.int .i64 hx) (.int .i64 am) (.bool ye) (.slice A8 acc.length c8) (.slice A9 nc.length c9)) (fun k hk e => hk.1.2.2.1 e)) (fun _ _ => trivial), Kd.R_mono (Kd.R_kept Q50.out (set11_kept w50 gr (.int .i64 kx) (.int .i64 ax) (.int .i64 bx) (.int .i64 cx) (.int .i64 dx) (.int .i64 fx) (.int .i64 hx) (.int .i64 am) (.bool ye) (.slice A8 acc.length c8) (.slice A9 nc.length c9)) (fun k hk e => by subst e; exact absurd LT30.out.2.1 (Nat.not_lt.mpr hk))) (fun k hk e => absurd (O50.out.1 k e.symm).2 (Nat.not_lt.mpr hk))⟩
          have z1 : (eq != 0) = true := bne_iff_ne.mpr hz
          have HFR := Aside0.mk (show fromF l (p0, e0) = (z28, eq, pq, eq) by unfold fromF; simp only [HQ1.out, HQ2.out, HQ3.out, HQ4.out, HQ5.out, HQ6.out, HQ7.out, HQ8.out, HQ9.out, HQ10.out, Int.toNat_natCast, HLE.out, HQN.out, HNE.out]; rw [if_neg HOK.out, if_neg hz])
          clear hz
          have rc0 : w50.cell? ⟨gr, 0, none⟩ = some (.int .i64 0) := (blk_cell F50.out.hr 0).trans rfl; have rf0 := blk_frozen F50.out.hr 0; have rc1 : w50.cell? ⟨gr, 1, none⟩ = some (.int .i64 0) := (blk_cell F50.out.hr 1).trans rfl; have rf1 := blk_frozen F50.out.hr 1; have rc2 : w50.cell? ⟨gr, 2, none⟩ = some (.int .i64 0) := (blk_cell F50.out.hr 2).trans rfl; have rf2 := blk_frozen F50.out.hr 2; have rc3 : w50.cell? ⟨gr, 3, none⟩ = some (.int .i64 0) := (blk_cell F50.out.hr 3).trans rfl; have rf3 := blk_frozen F50.out.hr 3; have rc4 : w50.cell? ⟨gr, 4, none⟩ = some (.int .i64 0) := (blk_cell F50.out.hr 4).trans rfl; have rf4 := blk_frozen F50.out.hr 4; have rc5 : w50.cell? ⟨gr, 5, none⟩ = some (.int .i64 0) := (blk_cell F50.out.hr 5).trans rfl; have rf5 := blk_frozen F50.out.hr 5; have rc6 : w50.cell? ⟨gr, 6, none⟩ = some (.int .i64 0) := (blk_cell F50.out.hr 6).trans rfl; have rf6 := blk_frozen F50.out.hr 6; have rc7 : w50.cell? ⟨gr, 7, none⟩ = some (.int .i64 0) := (blk_cell F50.out.hr 7).trans rfl; have rf7 := blk_frozen F50.out.hr 7; have rc8 : w50.cell? ⟨gr, 8, none⟩ = some (.bool false) := (blk_cell F50.out.hr 8).trans rfl; have rf8 := blk_frozen F50.out.hr 8; have rc9 : w50.cell? ⟨gr, 9, none⟩ = some (.slice none 0 0) := (blk_cell F50.out.hr 9).trans rfl; have rf9 := blk_frozen F50.out.hr 9; have rc10 : w50.cell? ⟨gr, 10, none⟩ = some (.slice none 0 0) := (blk_cell F50.out.hr 10).trans rfl; have rf10 := blk_frozen F50.out.hr 10
          go_wp2_with fail
          refine bodyPost_ret (results_ct rfl _ _ gr 28 #[.int .i64 0, .int .i64 0, .int .i64 0, .int .i64 0, .int .i64 0, .int .i64 0, .int .i64 0, .int .i64 0, .bool false, .slice none 0 0, .slice none 0 0] (0, 0) _ rfl (set11_blk F50.out.hr (.int .i64 0) (.int .i64 0) (.int .i64 0) (.int .i64 0) (.int .i64 0) (.int .i64 0) (.int .i64 0) (.int .i64 0) (.bool false) (.slice none 0 0) (.slice none 0 0)) Try.underlying28 rfl (by kernel_rfl)) rfl ?_
          rw [HFR.out]
          refine ⟨set11_far (g := gr) F50.out.keep (by have := F50.out.ne; omega) (.int .i64 0) (.int .i64 0) (.int .i64 0) (.int .i64 0) (.int .i64 0) (.int .i64 0) (.int .i64 0) (.int .i64 0) (.bool false) (.slice none 0 0) (.slice none 0 0), set11_below (g := gr) F50.out.bel (by have := F50.out.ne; omega) (.int .i64 0) (.int .i64 0) (.int .i64 0) (.int .i64 0) (.int .i64 0) (.int .i64 0) (.int .i64 0) (.int .i64 0) (.bool false) (.slice none 0 0) (.slice none 0 0), R50.out.kept (set11_kept w50 gr (.int .i64 0) (.int .i64 0) (.int .i64 0) (.int .i64 0) (.int .i64 0) (.int .i64 0) (.int .i64 0) (.int .i64 0) (.bool false) (.slice none 0 0) (.slice none 0 0)) (fun k hk => by subst hk; have := F50.out.ne; exact ⟨by omega, .inl (by omega)⟩), .slice none 0 0, .slice none 0 0, rfl, Kd.R_nil _ _ _ _ _, Kd.R_nil _ _ _ _ _⟩
      have d1 : decide ((j : Int) > 0) = true := decide_eq_true (by omega)
      have d2 : decide (0 < (j : Int)) = true := decide_eq_true (by omega)
      have d5 : decide (0 < j) = true := decide_eq_true (by omega)
      have d6 := eq_true (show 0 < j by omega)
      by_cases he : ee = 0
      · have t8 : (ee == 0) = true := beq_iff_eq.mpr he
        obtain ⟨i, rfl⟩ : ∃ i, j = i + 1 := ⟨j - 1, by omega⟩
        obtain ⟨lx, pa, ea, hqa, hpa, -, ka, hfa⟩ := rI_ok HL.out BB.out (e := ee) HJ8.out.2.1 1073741824 (by decide)
        obtain ⟨ly, pb, eb, hqb, hpb, -, kb, hfb⟩ := rI_ok HL.out BB.out (e := ea) hpa 1073741824 (by decide)
        obtain ⟨lz, pc, ec, hqc, hpc, -, kc, hfc⟩ := rI_ok HL.out BB.out (e := eb) hpb 1073741824 (by decide)
        obtain ⟨lw, pd, ed, hqd, hpd, kd, hfd⟩ := rN_ok HL.out BB.out (e := ec) hpc
        have hstep : linesF l (i + 1) (pp, ee) = (⟨⟨lx, ly⟩, lz, lw⟩ :: (linesF l i (pd, ed)).1, (linesF l i (pd, ed)).2) := by
          simp only [linesF, he, if_true]
          rw [he] at hqa
          simp only [hqa, hqb, hqc, hqd]
        have HNX := Aside0.mk (show linesF l cnt (p10, e10) = ((acc ++ [⟨⟨lx, ly⟩, lz, lw⟩]) ++ (linesF l i (pd, ed)).1, (linesF l i (pd, ed)).2) by rw [HLS.out, hstep]; simp)
        have HA1 := Aside0.mk hfa; have HA2 := Aside0.mk hfb; have HA3 := Aside0.mk hfc; have HA4 := Aside0.mk hfd; have HPD := Aside0.mk hpd
        have b2 : wrap64 (((i + 1 : Nat) : Int) - 1) = (i : Int) := by have := HJ8.out; unfold wrap64; omega
        have b3 : wrap64 ((i : Int) + 1 - 1) = (i : Int) := by have := HJ8.out; unfold wrap64; omega
        have b4 : wrap64 (i : Int) = (i : Int) := by have := HJ8.out; unfold wrap64; omega
        have d3 : decide ((i : Int) + 1 > 0) = true := decide_eq_true (by omega)
        have d4 : decide (0 < (i : Int) + 1) = true := decide_eq_true (by omega)
        clear he hj hqa hpa hfa hqb hpb hfb hqc hpc hfc hqd hpd hfd hstep
        go_wp2_with fail
        refine (rd_Err R20.out (show code_Reader_Err.f l (pp : Int) ee = some (ee, (pp : Int), ee) from rfl)).mono ?_; rintro x w21 ⟨rfl, hR, hb, hk⟩; have F21 := Aside0.mk (F20.out.call hb hk); have R21 := Aside0.mk hR; have O21_ := Aside0.mk (Kd.R_keep O20.out hk (fun k q e => by have := q.1; have := G0.out; omega)); clear hR hb hk
        clear pc0
        have O21 := Aside0.mk (show Kd.R k50 50 w21 w.heap.size (fun k => w.heap.size ≤ k ∧ k ≠ gp ∧ k ≠ gr ∧ k ≠ gm) (.slice A8 acc.length c8) acc from O21_.out)
        clear O21_
        go_wp2_with (first | ((with_reducible refine gate_dst (N := 7) rfl ?_); refine box_event ?hg (N := 7) ?hd (cs := #[.int .i64 0, .int .i64 0, .int .i64 0, .int .i64 0]) (t := 50) ?hr ?_; (case hd => rfl); (case hg => rfl); (case hr => first | (go_simp; done) | (go_simp; rfl)); intro gl hg w22 hbox hb; have F22 := Aside0.mk (F21.out.below hb); have R22 := Aside0.mk (R21.out.below hb); have O22 := Aside0.mk (Kd.R_mono (ok' := fun k => (w.heap.size ≤ k ∧ k ≠ gp ∧ k ≠ gr ∧ k ≠ gm) ∧ k ≠ gl) (Kd.R_below (Kd.R_bound O21.out) hb) (fun k hk => ⟨hk.1, fun e => by subst e; rw [hg] at hk; exact absurd hk.2.2.1 (Nat.lt_irrefl _)⟩)); have L22 := Aside0.mk hbox; have GL := Aside0.mk (show (w.heap.size ≤ gl ∧ gp ≠ gl ∧ gr ≠ gl ∧ gm ≠ gl) ∧ gl ≠ g from ⟨⟨by rw [hg]; exact F21.out.keep.1, by rw [hg]; exact Nat.ne_of_lt (blk_lt F21.out.hp), by rw [hg]; exact Nat.ne_of_lt (blk_lt F21.out.hr), by rw [hg]; exact Nat.ne_of_lt (blk_lt F21.out.hm)⟩, by rw [hg]; have h1 := F21.out.keep.1; have h2 := G0.out; omega⟩); clear hb hg hbox))
        refine start_ (n := 18) (S := fun w' => w'.cell? ⟨gp, 0, none⟩ = some (.pointer (some ⟨g, 0, none⟩))) (ds := [10, 13, 15, 17]) #[false, false, false, false, false, false, false, false, false, false, false, false, false, false, false, false, false, false] (by kernel_rfl) rfl rfl ((blk_cell (F22.out.drew).hp 0).trans rfl) (fun hHeld => ?_)
        refine pure_ (i := 0) (N := some 65) (v := ?_) (a' := ?_) #[true, false, false, false, false, false, false, false, false, false, false, false, false, false, false, false, false, false] rfl rfl (by kernel_rfl) (fun _ _ _ h => h) (Or.inl ⟨by rfl, ?_⟩) ?_ ?_
        rotate_left
        · intro w'
          go_simp
          with_reducible rfl
        rotate_left
        · simp only [Act.put, List.setIfInBounds_toArray, List.set_cons_zero, List.set_cons_succ, i64_w, i32_w]
          rfl
        refine pure_ (i := 2) (N := some 67) (v := ?_) (a' := ?_) #[true, false, true, false, false, false, false, false, false, false, false, false, false, false, false, false, false, false] rfl rfl (by kernel_rfl) (fun _ _ _ h => h) (Or.inl ⟨by rfl, ?_⟩) ?_ ?_
        rotate_left
        · intro w'
          go_simp
          with_reducible rfl
        rotate_left
        · simp only [Act.put, List.setIfInBounds_toArray, List.set_cons_zero, List.set_cons_succ, i64_w, i32_w]
          rfl
        refine pure_ (i := 4) (N := some 69) (v := ?_) (a' := ?_) #[true, false, true, false, true, false, false, false, false, false, false, false, false, false, false, false, false, false] rfl rfl (by kernel_rfl) (fun _ _ _ h => h) (Or.inl ⟨by rfl, ?_⟩) ?_ ?_
        rotate_left
        · intro w'
          go_simp
          with_reducible rfl
        rotate_left
        · simp only [Act.put, List.setIfInBounds_toArray, List.set_cons_zero, List.set_cons_succ, i64_w, i32_w]
          rfl
        refine take_ (i := 6) (N := some 71) (v := ?_) (a' := ?_) #[true, false, true, false, true, false, true, false, false, false, false, false, false, false, false, false, false, false] rfl rfl (by kernel_rfl) (fun _ _ _ h => h) (Or.inl ⟨by rfl, ?_⟩) hHeld ?_ ?_
        rotate_left
        · intro w' s0
          go_simp
          with_reducible rfl
        rotate_left
        · simp only [Act.put, List.setIfInBounds_toArray, List.set_cons_zero, List.set_cons_succ, i64_w, i32_w]
          rfl
        refine one_ (i := 1) (N := some 66) #[true, true, true, false, true, false, true, false, false, false, false, false, false, false, false, false, false, false] rfl rfl (by kernel_rfl) (by decide) (fun K hK => ?_)
        refine call_ 33 #[.pointer (some ⟨gp, 0, none⟩)] (by rfl) rfl ?hr ?_
        (case hr => first | (go_simp; done) | (go_simp; rfl))
        with_reducible refine (next_calls (w := w22.drew) F22.out.drew R22.out.drew HA1.out).mono ?_
        rintro e w23 ⟨rfl, hR, hb, hk⟩
        refine ⟨_, rfl, ?_⟩
        have F23 := Aside0.mk (F22.out.drew.call hb hk)
        have R23 := Aside0.mk hR
        have O23 := Aside0.mk (Kd.R_keep (Kd.R_drew O22.out) hk (fun k q e => by have := q.1.1; have := G0.out; omega))
        have L23 := Aside0.mk (hk.blk (blk_drew L22.out) GL.out.2 (by simp))
        clear hR hb hk
        refine hK.out _ _ ((blk_cell (F23.out).hp 0).trans rfl) (fun hHeld => ?_)
        clear hK K
        refine norm_ (a' := ?_) ?_ ?_
        rotate_left
        · show Act.put _ (some 66) _ = _
          simp only [Act.put, List.setIfInBounds_toArray, List.set_cons_zero, List.set_cons_succ, i64_w, i32_w]
          rfl
        refine pure_ (i := 8) (N := some 73) (v := ?_) (a' := ?_) #[true, true, true, false, true, false, true, false, true, false, false, false, false, false, false, false, false, false] rfl rfl (by kernel_rfl) (fun _ _ _ h => h) (Or.inl ⟨by rfl, ?_⟩) ?_ ?_
        rotate_left
        · intro w'
          go_simp
          with_reducible rfl
        rotate_left
        · simp only [Act.put, List.setIfInBounds_toArray, List.set_cons_zero, List.set_cons_succ, i64_w, i32_w]
          rfl
        refine pure_ (i := 9) (N := some 74) (v := ?_) (a' := ?_) #[true, true, true, false, true, false, true, false, true, true, false, false, false, false, false, false, false, false] rfl rfl (by kernel_rfl) (fun _ _ _ h => h) (Or.inl ⟨by rfl, ?_⟩) ?_ ?_
        rotate_left
        · intro w'
          go_simp
          with_reducible rfl
        rotate_left
        · simp only [Act.put, List.setIfInBounds_toArray, List.set_cons_zero, List.set_cons_succ, i64_w, i32_w]
          rfl
        refine one_ (i := 3) (N := some 68) #[true, true, true, true, true, false, true, false, true, true, false, false, false, false, false, false, false, false] rfl rfl (by kernel_rfl) (by decide) (fun K hK => ?_)
        refine call_ 33 #[.pointer (some ⟨gp, 0, none⟩)] (by rfl) rfl ?hr ?_
        (case hr => first | (go_simp; done) | (go_simp; rfl))
        with_reducible refine (next_calls F23.out R23.out HA2.out).mono ?_
        rintro e w24 ⟨rfl, hR, hb, hk⟩
        refine ⟨_, rfl, ?_⟩
        have F24 := Aside0.mk (F23.out.call hb hk)
        have R24 := Aside0.mk hR
        have O24 := Aside0.mk (Kd.R_keep O23.out hk (fun k q e => by have := q.1.1; have := G0.out; omega))
        have L24 := Aside0.mk (hk.blk L23.out GL.out.2 (by simp))
        clear hR hb hk
        refine hK.out _ _ ((blk_cell (F24.out).hp 0).trans rfl) (fun hHeld => ?_)
        clear hK K
        refine norm_ (a' := ?_) ?_ ?_
        rotate_left
        · show Act.put _ (some 68) _ = _
          simp only [Act.put, List.setIfInBounds_toArray, List.set_cons_zero, List.set_cons_succ, i64_w, i32_w]
          rfl
        refine one_ (i := 5) (N := some 70) #[true, true, true, true, true, true, true, false, true, true, false, false, false, false, false, false, false, false] rfl rfl (by kernel_rfl) (by decide) (fun K hK => ?_)
        refine call_ 33 #[.pointer (some ⟨gp, 0, none⟩)] (by rfl) rfl ?hr ?_
        (case hr => first | (go_simp; done) | (go_simp; rfl))
        with_reducible refine (next_calls F24.out R24.out HA3.out).mono ?_
        rintro e w25 ⟨rfl, hR, hb, hk⟩
        refine ⟨_, rfl, ?_⟩
        have F25 := Aside0.mk (F24.out.call hb hk)
        have R25 := Aside0.mk hR
        have O25 := Aside0.mk (Kd.R_keep O24.out hk (fun k q e => by have := q.1.1; have := G0.out; omega))
        have L25 := Aside0.mk (hk.blk L24.out GL.out.2 (by simp))
        clear hR hb hk
        refine hK.out _ _ ((blk_cell (F25.out).hp 0).trans rfl) (fun hHeld => ?_)
        clear hK K
        refine norm_ (a' := ?_) ?_ ?_
        rotate_left
        · show Act.put _ (some 70) _ = _
          simp only [Act.put, List.setIfInBounds_toArray, List.set_cons_zero, List.set_cons_succ, i64_w, i32_w]
          rfl
        refine one_ (i := 7) (N := some 72) #[true, true, true, true, true, true, true, true, true, true, false, false, false, false, false, false, false, false] rfl rfl (by kernel_rfl) (by decide) (fun K hK => ?_)
        refine goes_ Try.func34 (by kernel_rfl) rfl #[.pointer (some ⟨g, 0, none⟩)] (by rfl) rfl rfl (by simp only [List.map_toArray, List.map_cons, List.map_nil]; rfl) ?_
        with_reducible refine (rd_Num R25.out HA4.out).mono ?_
        rintro e w26 ⟨rfl, hR, hb, hk⟩
        refine ⟨_, rfl, ?_⟩
        have F26 := Aside0.mk (F25.out.call hb hk)
        have R26 := Aside0.mk hR
        have O26 := Aside0.mk (Kd.R_keep O25.out hk (fun k q e => by have := q.1.1; have := G0.out; omega))
        have L26 := Aside0.mk (hk.blk L25.out GL.out.2 (by simp))
        clear hR hb hk
        have lc0 : w26.cell? ⟨gl, 0, none⟩ = some (.int .i64 0) := (blk_cell L26.out 0).trans rfl
        have lf0 := blk_frozen L26.out 0
        have lc1 : w26.cell? ⟨gl, 1, none⟩ = some (.int .i64 0) := (blk_cell L26.out 1).trans rfl
        have lf1 := blk_frozen L26.out 1
        have lc2 : w26.cell? ⟨gl, 2, none⟩ = some (.int .i64 0) := (blk_cell L26.out 2).trans rfl
        have lf2 := blk_frozen L26.out 2
        have lc3 : w26.cell? ⟨gl, 3, none⟩ = some (.int .i64 0) := (blk_cell L26.out 3).trans rfl
        have lf3 := blk_frozen L26.out 3
        refine hK.out _ _ ((blk_cell (F26.out).hp 0).trans rfl) (fun hHeld => ?_)
        clear hK K
        refine norm_ (a' := ?_) ?_ ?_
        rotate_left
        · show Act.put _ (some 72) _ = _
          simp only [Act.put, List.setIfInBounds_toArray, List.set_cons_zero, List.set_cons_succ, i64_w, i32_w]
          rfl
        refine last_ (i := 10) (N := none) #[true, true, true, true, true, true, true, true, true, true, true, false, false, false, false, false, false, false] rfl rfl (by kernel_rfl) (by decide) (fun K hK => ?_)
        refine skip_ (w1 := ?_) (by rfl) rfl ?_ ?_
        rotate_left
        · go_simp
          rfl
        refine hK.out _ _ ?_
        clear hK K
        refine pure_ (i := 11) (N := some 75) (v := ?_) (a' := ?_) #[true, true, true, true, true, true, true, true, true, true, true, true, false, false, false, false, false, false] rfl rfl (by kernel_rfl) (fun _ _ _ h => h) (Or.inl ⟨by rfl, ?_⟩) ?_ ?_
        rotate_left
        · intro w'
          go_simp
          with_reducible rfl
        rotate_left
        · simp only [Act.put, List.setIfInBounds_toArray, List.set_cons_zero, List.set_cons_succ, i64_w, i32_w]
          rfl
        refine pure_ (i := 12) (N := some 76) (v := ?_) (a' := ?_) #[true, true, true, true, true, true, true, true, true, true, true, true, true, false, false, false, false, false] rfl rfl (by kernel_rfl) (fun _ _ _ h => h) (Or.inl ⟨by rfl, ?_⟩) ?_ ?_
        rotate_left
        · intro w'
          go_simp
          with_reducible rfl
        rotate_left
        · simp only [Act.put, List.setIfInBounds_toArray, List.set_cons_zero, List.set_cons_succ, i64_w, i32_w]
          rfl
        refine last_ (i := 13) (N := none) #[true, true, true, true, true, true, true, true, true, true, true, true, true, true, false, false, false, false] rfl rfl (by kernel_rfl) (by decide) (fun K hK => ?_)
        refine skip_ (w1 := ?_) (by rfl) rfl ?_ ?_
        rotate_left
        · go_simp
          rfl
        refine hK.out _ _ ?_
        clear hK K
        refine pure_ (i := 14) (N := some 77) (v := ?_) (a' := ?_) #[true, true, true, true, true, true, true, true, true, true, true, true, true, true, true, false, false, false] rfl rfl (by kernel_rfl) (fun _ _ _ h => h) (Or.inl ⟨by rfl, ?_⟩) ?_ ?_
        rotate_left
        · intro w'
          go_simp
          with_reducible rfl
        rotate_left
        · simp only [Act.put, List.setIfInBounds_toArray, List.set_cons_zero, List.set_cons_succ, i64_w, i32_w]
          rfl
        refine last_ (i := 15) (N := none) #[true, true, true, true, true, true, true, true, true, true, true, true, true, true, true, true, false, false] rfl rfl (by kernel_rfl) (by decide) (fun K hK => ?_)
        refine skip_ (w1 := ?_) (by rfl) rfl ?_ ?_
        rotate_left
        · go_simp
          rfl
        refine hK.out _ _ ?_
        clear hK K
        refine pure_ (i := 16) (N := some 78) (v := ?_) (a' := ?_) #[true, true, true, true, true, true, true, true, true, true, true, true, true, true, true, true, true, false] rfl rfl (by kernel_rfl) (fun _ _ _ h => h) (Or.inl ⟨by rfl, ?_⟩) ?_ ?_
        rotate_left
        · intro w'
          go_simp
          with_reducible rfl
        rotate_left
        · simp only [Act.put, List.setIfInBounds_toArray, List.set_cons_zero, List.set_cons_succ, i64_w, i32_w]
          rfl
        refine last_ (i := 17) (N := none) #[true, true, true, true, true, true, true, true, true, true, true, true, true, true, true, true, true, true] rfl rfl (by kernel_rfl) (by decide) (fun K hK => ?_)
        refine skip_ (w1 := ?_) (by rfl) rfl ?_ ?_
        rotate_left
        · go_simp
          rfl
        refine hK.out _ _ ?_
        clear hK K
        refine done_ (by kernel_rfl) ?_


        have F27 := Aside0.mk ((((F26.out.far GL.out.1 0 (.int .i64 lx)).far GL.out.1 1 (.int .i64 ly)).far GL.out.1 2 (.int .i64 lz)).far GL.out.1 3 (.int .i64 lw)); have R27 := Aside0.mk ((((R26.out.set (gx := gl) (by have := F26.out.ne; have := GL.out.1.1; omega) 0 (.int .i64 lx)).set (gx := gl) (by have := F26.out.ne; have := GL.out.1.1; omega) 1 (.int .i64 ly)).set (gx := gl) (by have := F26.out.ne; have := GL.out.1.1; omega) 2 (.int .i64 lz)).set (gx := gl) (by have := F26.out.ne; have := GL.out.1.1; omega) 3 (.int .i64 lw))
        have O27 := Aside0.mk (Kd.R_kept O26.out (set4_kept w26 gl (.int .i64 lx) (.int .i64 ly) (.int .i64 lz) (.int .i64 lw)) (fun k hk e => hk.2 e)); have L27 := Aside0.mk (set4_blk L26.out (.int .i64 lx) (.int .i64 ly) (.int .i64 lz) (.int .i64 lw))
        unfold set4 at O27 L27
        clear F22 R22 O22 L22 F23 R23 O23 L23 F24 R24 O24 L24 F25 R25 O25 L25 F26 R26 O26 L26 lc0 lf0 lc1 lf1 lc2 lf2 lc3 lf3
        generalize (((w26.setCell ⟨gl, 0, none⟩ (.int .i64 lx)).setCell ⟨gl, 1, none⟩ (.int .i64 ly)).setCell ⟨gl, 2, none⟩ (.int .i64 lz)).setCell ⟨gl, 3, none⟩ (.int .i64 lw) = w27 at F27 R27 O27 L27 ⊢
        have lc0 : w27.cell? ⟨gl, 0, none⟩ = some (.int .i64 lx) := (blk_cell L27.out 0).trans rfl; have lf0 := blk_frozen L27.out 0; have lc1 : w27.cell? ⟨gl, 1, none⟩ = some (.int .i64 ly) := (blk_cell L27.out 1).trans rfl; have lf1 := blk_frozen L27.out 1; have lc2 : w27.cell? ⟨gl, 2, none⟩ = some (.int .i64 lz) := (blk_cell L27.out 2).trans rfl; have lf2 := blk_frozen L27.out 2; have lc3 : w27.cell? ⟨gl, 3, none⟩ = some (.int .i64 lw) := (blk_cell L27.out 3).trans rfl; have lf3 := blk_frozen L27.out 3
        have nc0 : w27.cell? ⟨gm, 0, none⟩ = some (.int .i64 kx) := (blk_cell F27.out.hm 0).trans rfl; have nf0 := blk_frozen F27.out.hm 0; have nc1 : w27.cell? ⟨gm, 1, none⟩ = some (.int .i64 ax) := (blk_cell F27.out.hm 1).trans rfl; have nf1 := blk_frozen F27.out.hm 1; have nc2 : w27.cell? ⟨gm, 2, none⟩ = some (.int .i64 bx) := (blk_cell F27.out.hm 2).trans rfl; have nf2 := blk_frozen F27.out.hm 2; have nc3 : w27.cell? ⟨gm, 3, none⟩ = some (.int .i64 cx) := (blk_cell F27.out.hm 3).trans rfl; have nf3 := blk_frozen F27.out.hm 3; have nc4 : w27.cell? ⟨gm, 4, none⟩ = some (.int .i64 dx) := (blk_cell F27.out.hm 4).trans rfl; have nf4 := blk_frozen F27.out.hm 4; have nc5 : w27.cell? ⟨gm, 5, none⟩ = some (.int .i64 fx) := (blk_cell F27.out.hm 5).trans rfl; have nf5 := blk_frozen F27.out.hm 5; have nc6 : w27.cell? ⟨gm, 6, none⟩ = some (.int .i64 hx) := (blk_cell F27.out.hm 6).trans rfl; have nf6 := blk_frozen F27.out.hm 6; have nc7 : w27.cell? ⟨gm, 7, none⟩ = some (.int .i64 am) := (blk_cell F27.out.hm 7).trans rfl; have nf7 := blk_frozen F27.out.hm 7; have nc8 : w27.cell? ⟨gm, 8, none⟩ = some (.bool ye) := (blk_cell F27.out.hm 8).trans rfl; have nf8 := blk_frozen F27.out.hm 8; have nc9 : w27.cell? ⟨gm, 9, none⟩ = some (.slice A8 acc.length c8) := (blk_cell F27.out.hm 9).trans rfl; have nf9 := blk_frozen F27.out.hm 9; have nc10 : w27.cell? ⟨gm, 10, none⟩ = some (.slice none 0 0) := (blk_cell F27.out.hm 10).trans rfl; have nf10 := blk_frozen F27.out.hm 10
        go_wp2_with (first | ((with_reducible refine gate_dst (N := 82) rfl ?_); refine Kd.R_lit k50 (w0 := w27) w27.heap.size 50 ?hg (N := 82) ?hd (xs := [⟨⟨lx, ly⟩, lz, lw⟩]) (inner := [.int .i64 lx, .int .i64 ly, .int .i64 lz, .int .i64 lw]) (ok := fun _ => True) (okp := fun _ => True) ?hr ?hp (fun _ hk => hk) trivial (Below.refl _ _) (Nat.le_refl _) (by simp) ?_; (case hd => rfl); (case hg => rfl); (case hr => first | (go_simp; done) | (go_simp; rfl)); (case hp => exact (Reps.snoc (Reps.none _ 4) (k50_mkM _ _ _ ⟨⟨lx, ly⟩, lz, lw⟩) rfl)); intro vL w28 hoL hb hg_ hnew_; clear hg_ hnew_; obtain ⟨AL, cL, eL, hcL, hrL⟩ := Kd.R_reads hoL; subst eL; have RL := Aside0.mk hrL; have F28 := Aside0.mk (F27.out.below hb); have R28 := Aside0.mk (R27.out.below hb); have O28 := Aside0.mk (Kd.R_below O27.out hb); clear hoL hb hcL hrL F27) | ((with_reducible refine gate_builtin (b := .append) (xs := #[.tmp 80, .tmp 82]) rfl ?_); at_builtin; refine Kd.R_append_rows k50 (Rr := k50.K w28) (w0 := w28) w.heap.size rfl (.tmp 80) (.tmp 82) 25 50 (.agg #[.int .i64 0, .int .i64 0, .int .i64 0, .int .i64 0]) 32 rfl Try.underlying25 info50 rfl (by decide) (by omega) (.slice A8 acc.length c8) acc [⟨⟨lx, ly⟩, lz, lw⟩] _ _ _ (fun k => w.heap.size ≤ k ∧ k ≠ gp ∧ k ≠ gr ∧ k ≠ gm) (fun _ => False) rfl rfl ?aO ?aR (fun x cs h => by rw [k50_open h]; exact k50_mkM _ _ _ x) (fun _ h => h.elim) ?aF ?aB ?aS ?aL ?_; (case aR => exact RL.out); (case aB => exact Below.refl _ _); (case aF => exact (fun k hk => ⟨Nat.le_trans F28.out.keep.1 hk, fun e => by subst e; exact absurd (blk_lt F28.out.hp) (Nat.not_lt.mpr hk), fun e => by subst e; exact absurd (blk_lt F28.out.hr) (Nat.not_lt.mpr hk), fun e => by subst e; exact absurd (blk_lt F28.out.hm) (Nat.not_lt.mpr hk)⟩)); (case aO => exact Kd.R_mono O28.out (fun k hk => hk.1)); (case aS => exact F28.out.keep.1); (case aL => have := HJ8.out; first | omega | (simp only [List.length_singleton]; omega)); intro v29 w29 ho hb hg hat; obtain ⟨A29, c29, e29⟩ := Kd.R_slice ho; subst e29; rw [List.length_append, List.length_singleton] at ho; have O29 := Aside0.mk ho; have F29 := Aside0.mk (F28.out.grown hb hg (fun e => (O28.out.1 _ e.symm).1.2.1 rfl) (fun e => (O28.out.1 _ e.symm).1.2.2.1 rfl) (fun e => (O28.out.1 _ e.symm).1.2.2.2 rfl)); have R29 := Aside0.mk (R28.out.grown hb G0.out); clear ho hb hg hat F28; clear nc0 nf0 nc1 nf1 nc2 nf2 nc3 nf3 nc4 nf4 nc5 nf5 nc6 nf6 nc7 nf7 nc8 nf8 nc9 nf9 nc10 nf10; have nc0 : w29.cell? ⟨gm, 0, none⟩ = some (.int .i64 kx) := (blk_cell F29.out.hm 0).trans rfl; have nf0 := blk_frozen F29.out.hm 0; have nc1 : w29.cell? ⟨gm, 1, none⟩ = some (.int .i64 ax) := (blk_cell F29.out.hm 1).trans rfl; have nf1 := blk_frozen F29.out.hm 1; have nc2 : w29.cell? ⟨gm, 2, none⟩ = some (.int .i64 bx) := (blk_cell F29.out.hm 2).trans rfl; have nf2 := blk_frozen F29.out.hm 2; have nc3 : w29.cell? ⟨gm, 3, none⟩ = some (.int .i64 cx) := (blk_cell F29.out.hm 3).trans rfl; have nf3 := blk_frozen F29.out.hm 3; have nc4 : w29.cell? ⟨gm, 4, none⟩ = some (.int .i64 dx) := (blk_cell F29.out.hm 4).trans rfl; have nf4 := blk_frozen F29.out.hm 4; have nc5 : w29.cell? ⟨gm, 5, none⟩ = some (.int .i64 fx) := (blk_cell F29.out.hm 5).trans rfl; have nf5 := blk_frozen F29.out.hm 5; have nc6 : w29.cell? ⟨gm, 6, none⟩ = some (.int .i64 hx) := (blk_cell F29.out.hm 6).trans rfl; have nf6 := blk_frozen F29.out.hm 6; have nc7 : w29.cell? ⟨gm, 7, none⟩ = some (.int .i64 am) := (blk_cell F29.out.hm 7).trans rfl; have nf7 := blk_frozen F29.out.hm 7; have nc8 : w29.cell? ⟨gm, 8, none⟩ = some (.bool ye) := (blk_cell F29.out.hm 8).trans rfl; have nf8 := blk_frozen F29.out.hm 8; have nc9 : w29.cell? ⟨gm, 9, none⟩ = some (.slice A8 acc.length c8) := (blk_cell F29.out.hm 9).trans rfl; have nf9 := blk_frozen F29.out.hm 9; have nc10 : w29.cell? ⟨gm, 10, none⟩ = some (.slice none 0 0) := (blk_cell F29.out.hm 10).trans rfl; have nf10 := blk_frozen F29.out.hm 10))
        go_roundg (gk - 1)
        case measure => have := HJ8.out; omega
        case rel => exact ⟨i, pd, ed, acc ++ [⟨⟨lx, ly⟩, lz, lw⟩], _, (by first | rw [b2] | rw [b3] | rw [b4] | rfl), ⟨by have := HJ8.out; omega, HPD.out, by have := HJ8.out; simp only [List.length_append, List.length_singleton]; omega⟩, HNX, ⟨R29.out.set (gx := gm) (by have := F29.out.ne; omega) 9 _⟩, ⟨F29.out.put 9 _ rfl⟩, ⟨Kd.R_kept O29.out ((Kept.refl w29 (fun k => k = gm)).setCell (p := ⟨gm, 9, none⟩) (.inl rfl) _) (fun k hk e => hk.2.2.2 e)⟩⟩
      have t8 : (ee == 0) = false := beq_eq_false_iff_ne.mpr he
      have HLE := Aside0.mk (show linesF l cnt (p10, e10) = (acc, pp, ee) by rw [HLS.out]; obtain ⟨i, rfl⟩ : ∃ i, j = i + 1 := ⟨j - 1, by omega⟩; simp [linesF, he])
      clear he hj
      go_wp2_with fail
      refine (rd_Err R20.out (show code_Reader_Err.f l (pp : Int) ee = some (ee, (pp : Int), ee) from rfl)).mono ?_; rintro x w21 ⟨rfl, hR, hb, hk⟩; have F21 := Aside0.mk (F20.out.call hb hk); have R21 := Aside0.mk hR; have O21_ := Aside0.mk (Kd.R_keep O20.out hk (fun k q e => by have := q.1; have := G0.out; omega)); clear hR hb hk
      have O21 := Aside0.mk (show Kd.R k50 50 w21 w.heap.size (fun k => w.heap.size ≤ k ∧ k ≠ gp ∧ k ≠ gr ∧ k ≠ gm) (.slice A8 acc.length c8) acc from O21_.out)
      clear O21_ pc0
      have pc0 : w21.cell? ⟨gp, 0, none⟩ = some (.pointer (some ⟨g, 0, none⟩)) := (blk_cell F21.out.hp 0).trans rfl
      go_wp2_with fail
      obtain ⟨nn, q1, f1, hqn, hpn, hrn, kN, hfn⟩ := rI_ok HL.out BB.out (e := ee) HJ8.out.2.1 8 (by decide)
      obtain ⟨nt, rfl⟩ : ∃ n : Nat, nn = (n : Int) := ⟨nn.toNat, by omega⟩
      have HQN := Aside0.mk hqn; have HPN := Aside0.mk hpn; have HRN := Aside0.mk (show nt ≤ 8 by omega); have HFN := Aside0.mk hfn
      clear hqn hpn hrn hfn
      refine (rd_Int 0 8 R21.out HFN.out).mono ?_; rintro x w30 ⟨rfl, hR, hb, hk⟩; have F30 := Aside0.mk (F21.out.call hb hk); have R30 := Aside0.mk hR; have O30_ := Aside0.mk (Kd.R_bound (Kd.R_keep O21.out hk (fun k q e => by have := q.1; have := G0.out; omega))); clear hR hb hk
      have O30 := Aside0.mk (Kd.R_mono (ok' := fun k => (w.heap.size ≤ k ∧ k ≠ gp ∧ k ≠ gr ∧ k ≠ gm) ∧ k < w30.heap.size) O30_.out (fun k hk => ⟨hk.1, hk.2.2.1⟩))
      have W30 := Aside0.mk F30.out.keep.1
      have LT30 := Aside0.mk (show gp < w30.heap.size ∧ gr < w30.heap.size ∧ gm < w30.heap.size from ⟨blk_lt F30.out.hp, blk_lt F30.out.hr, blk_lt F30.out.hm⟩)
      clear O30_ pc0
      go_wp2_with fail
      go_loopg [8] (nt + 1) (fun kq t8_ w' => ∃ (j pq : Nat) (eq : Int) (nc : List Int) (u9 : Value), t8_ = .int .i64 (j : Int) ∧ Aside0 (j + 1 = kq ∧ pq ≤ l.length ∧ nc.length + j ≤ 8) ∧ Aside0 (netsF l nt (q1, f1) = (nc ++ (netsF l j (pq, eq)).1, (netsF l j (pq, eq)).2)) ∧ Aside0 (IsR 0 w' g l (pq : Int) eq) ∧ Aside0 (FM w w' g gp gr gm #[.int .i64 kx, .int .i64 ax, .int .i64 bx, .int .i64 cx, .int .i64 dx, .int .i64 fx, .int .i64 hx, .int .i64 am, .bool ye, .slice A8 acc.length c8, u9]) ∧ Aside0 (Kd.R k50 50 w' w.heap.size (fun k => (w.heap.size ≤ k ∧ k ≠ gp ∧ k ≠ gr ∧ k ≠ gm) ∧ k < w30.heap.size) (.slice A8 acc.length c8) acc) ∧ Aside0 (Kd.R (Kd.int .i64) 2 w' w.heap.size (fun k => w30.heap.size ≤ k) u9 nc) ∧ Aside0 (w30.heap.size ≤ w'.heap.size))
      case atStart => exact ⟨nt, q1, f1, [], .slice none 0 0, rfl, ⟨by omega, HPN.out, by have := HRN.out; simp only [List.length_nil]; omega⟩, ⟨by rw [List.nil_append]⟩, R30, F30, O30, ⟨Kd.R_nil _ _ _ _ _⟩, ⟨Nat.le_refl _⟩⟩
      case round =>
        obtain ⟨j2, pq, eq, nc, u9, rfl, HJ, HNS, R40, F40, O40, Q40, S40⟩ := hrel
        obtain ⟨A9, c9, e9_⟩ := Kd.R_slice Q40.out
        subst e9_
        clear F30 R30 O30
        have pc0 : wr.cell? ⟨gp, 0, none⟩ = some (.pointer (some ⟨g, 0, none⟩)) := (blk_cell F40.out.hp 0).trans rfl
        by_cases hj2 : j2 = 0
        · subst hj2
          have y1 : decide (((0 : Nat) : Int) > 0) = false := by decide
          have y2 : decide ((0 : Int) > 0) = false := by decide
          have HNE := Aside0.mk (show netsF l nt (q1, f1) = (nc, pq, eq) by rw [HNS.out]; simp [netsF])
          go_wp2_with fail
          refine (rd_Err R40.out (show code_Reader_Err.f l (pq : Int) eq = some (eq, (pq : Int), eq) from rfl)).mono ?_; rintro x w50 ⟨rfl, hR, hb, hk⟩; have F50 := Aside0.mk (F40.out.call hb hk); have R50 := Aside0.mk hR; have O50 := Aside0.mk (Kd.R_keep O40.out hk (fun k q e => by have := q.1.1; have := G0.out; omega)); have Q50 := Aside0.mk (Kd.R_keep Q40.out hk (fun k q e => by have := W30.out; have := G0.out; omega)); clear hR hb hk
          clear pc0
          by_cases hz : eq = 0
          · have z1 : (eq != 0) = false := bne_eq_false_iff_eq.mpr hz
            have HFR := Aside0.mk (show fromF l (p0, e0) = (⟨kx, ⟨ax, bx⟩, cx, dx, fx, hx, am, ye, acc, nc⟩, 0, pq, eq) by unfold fromF; simp only [HQ1.out, HQ2.out, HQ3.out, HQ4.out, HQ5.out, HQ6.out, HQ7.out, HQ8.out, HQ9.out, HQ10.out, Int.toNat_natCast, HLE.out, HQN.out, HNE.out]; rw [if_neg HOK.out, if_pos hz])
            clear hz
            have mc0 : w50.cell? ⟨gm, 0, none⟩ = some (.int .i64 kx) := (blk_cell F50.out.hm 0).trans rfl; have mf0 := blk_frozen F50.out.hm 0; have mc1 : w50.cell? ⟨gm, 1, none⟩ = some (.int .i64 ax) := (blk_cell F50.out.hm 1).trans rfl; have mf1 := blk_frozen F50.out.hm 1; have mc2 : w50.cell? ⟨gm, 2, none⟩ = some (.int .i64 bx) := (blk_cell F50.out.hm 2).trans rfl; have mf2 := blk_frozen F50.out.hm 2; have mc3 : w50.cell? ⟨gm, 3, none⟩ = some (.int .i64 cx) := (blk_cell F50.out.hm 3).trans rfl; have mf3 := blk_frozen F50.out.hm 3; have mc4 : w50.cell? ⟨gm, 4, none⟩ = some (.int .i64 dx) := (blk_cell F50.out.hm 4).trans rfl; have mf4 := blk_frozen F50.out.hm 4; have mc5 : w50.cell? ⟨gm, 5, none⟩ = some (.int .i64 fx) := (blk_cell F50.out.hm 5).trans rfl; have mf5 := blk_frozen F50.out.hm 5; have mc6 : w50.cell? ⟨gm, 6, none⟩ = some (.int .i64 hx) := (blk_cell F50.out.hm 6).trans rfl; have mf6 := blk_frozen F50.out.hm 6; have mc7 : w50.cell? ⟨gm, 7, none⟩ = some (.int .i64 am) := (blk_cell F50.out.hm 7).trans rfl; have mf7 := blk_frozen F50.out.hm 7; have mc8 : w50.cell? ⟨gm, 8, none⟩ = some (.bool ye) := (blk_cell F50.out.hm 8).trans rfl; have mf8 := blk_frozen F50.out.hm 8; have mc9 : w50.cell? ⟨gm, 9, none⟩ = some (.slice A8 acc.length c8) := (blk_cell F50.out.hm 9).trans rfl; have mf9 := blk_frozen F50.out.hm 9; have mc10 : w50.cell? ⟨gm, 10, none⟩ = some (.slice A9 nc.length c9) := (blk_cell F50.out.hm 10).trans rfl; have mf10 := blk_frozen F50.out.hm 10
            have rc0 : w50.cell? ⟨gr, 0, none⟩ = some (.int .i64 0) := (blk_cell F50.out.hr 0).trans rfl; have rf0 := blk_frozen F50.out.hr 0; have rc1 : w50.cell? ⟨gr, 1, none⟩ = some (.int .i64 0) := (blk_cell F50.out.hr 1).trans rfl; have rf1 := blk_frozen F50.out.hr 1; have rc2 : w50.cell? ⟨gr, 2, none⟩ = some (.int .i64 0) := (blk_cell F50.out.hr 2).trans rfl; have rf2 := blk_frozen F50.out.hr 2; have rc3 : w50.cell? ⟨gr, 3, none⟩ = some (.int .i64 0) := (blk_cell F50.out.hr 3).trans rfl; have rf3 := blk_frozen F50.out.hr 3; have rc4 : w50.cell? ⟨gr, 4, none⟩ = some (.int .i64 0) := (blk_cell F50.out.hr 4).trans rfl; have rf4 := blk_frozen F50.out.hr 4; have rc5 : w50.cell? ⟨gr, 5, none⟩ = some (.int .i64 0) := (blk_cell F50.out.hr 5).trans rfl; have rf5 := blk_frozen F50.out.hr 5; have rc6 : w50.cell? ⟨gr, 6, none⟩ = some (.int .i64 0) := (blk_cell F50.out.hr 6).trans rfl; have rf6 := blk_frozen F50.out.hr 6; have rc7 : w50.cell? ⟨gr, 7, none⟩ = some (.int .i64 0) := (blk_cell F50.out.hr 7).trans rfl; have rf7 := blk_frozen F50.out.hr 7; have rc8 : w50.cell? ⟨gr, 8, none⟩ = some (.bool false) := (blk_cell F50.out.hr 8).trans rfl; have rf8 := blk_frozen F50.out.hr 8; have rc9 : w50.cell? ⟨gr, 9, none⟩ = some (.slice none 0 0) := (blk_cell F50.out.hr 9).trans rfl; have rf9 := blk_frozen F50.out.hr 9; have rc10 : w50.cell? ⟨gr, 10, none⟩ = some (.slice none 0 0) := (blk_cell F50.out.hr 10).trans rfl; have rf10 := blk_frozen F50.out.hr 10
            go_wp2_with fail
            refine bodyPost_ret (results_ct rfl _ _ gr 28 #[.int .i64 kx, .int .i64 ax, .int .i64 bx, .int .i64 cx, .int .i64 dx, .int .i64 fx, .int .i64 hx, .int .i64 am, .bool ye, .slice A8 acc.length c8, .slice A9 nc.length c9] (0, 0) _ rfl (set11_blk F50.out.hr (.int .i64 kx) (.int .i64 ax) (.int .i64 bx) (.int .i64 cx) (.int .i64 dx) (.int .i64 fx) (.int .i64 hx) (.int .i64 am) (.bool ye) (.slice A8 acc.length c8) (.slice A9 nc.length c9)) Try.underlying28 rfl (by kernel_rfl)) rfl ?_
            rw [HFR.out]
            exact ⟨set11_far (g := gr) F50.out.keep (by have := F50.out.ne; omega) (.int .i64 kx) (.int .i64 ax) (.int .i64 bx) (.int .i64 cx) (.int .i64 dx) (.int .i64 fx) (.int .i64 hx) (.int .i64 am) (.bool ye) (.slice A8 acc.length c8) (.slice A9 nc.length c9), set11_below (g := gr) F50.out.bel (by have := F50.out.ne; omega) (.int .i64 kx) (.int .i64 ax) (.int .i64 bx) (.int .i64 cx) (.int .i64 dx) (.int .i64 fx) (.int .i64 hx) (.int .i64 am) (.bool ye) (.slice A8 acc.length c8) (.slice A9 nc.length c9), R50.out.kept (set11_kept w50 gr (.int .i64 kx) (.int .i64 ax) (.int .i64 bx) (.int .i64 cx) (.int .i64 dx) (.int .i64 fx) (.int .i64 hx) (.int .i64 am) (.bool ye) (.slice A8 acc.length c8) (.slice A9 nc.length c9)) (fun k hk => by subst hk; have := F50.out.ne; exact ⟨by omega, .inl (by omega)⟩), _, _, rfl, Kd.R_mono (Kd.R_kept O50.out (set11_kept w50 gr (.int .i64 kx) (.int .i64 ax) (.int .i64 bx) (.int .i64 cx) (.int .i64 dx) (.int .i64 fx) (.int .i64 hx) (.int .i64 am) (.bool ye) (.slice A8 acc.length c8) (.slice A9 nc.length c9)) (fun k hk e => hk.1.2.2.1 e)) (fun _ _ => trivial), Kd.R_mono (Kd.R_kept Q50.out (set11_kept w50 gr (.int .i64 kx) (.int .i64 ax) (.int .i64 bx) (.int .i64 cx) (.int .i64 dx) (.int .i64 fx) (.int .i64 hx) (.int .i64 am) (.bool ye) (.slice A8 acc.length c8) (.slice A9 nc.length c9)) (fun k hk e => by subst e; exact absurd LT30.out.2.1 (Nat.not_lt.mpr hk))) (fun k hk e => absurd (O50.out.1 k e.symm).2 (Nat.not_lt.mpr hk))⟩
          have z1 : (eq != 0) = true := bne_iff_ne.mpr hz
          have HFR := Aside0.mk (show fromF l (p0, e0) = (z28, eq, pq, eq) by unfold fromF; simp only [HQ1.out, HQ2.out, HQ3.out, HQ4.out, HQ5.out, HQ6.out, HQ7.out, HQ8.out, HQ9.out, HQ10.out, Int.toNat_natCast, HLE.out, HQN.out, HNE.out]; rw [if_neg HOK.out, if_neg hz])
          clear hz
          have rc0 : w50.cell? ⟨gr, 0, none⟩ = some (.int .i64 0) := (blk_cell F50.out.hr 0).trans rfl; have rf0 := blk_frozen F50.out.hr 0; have rc1 : w50.cell? ⟨gr, 1, none⟩ = some (.int .i64 0) := (blk_cell F50.out.hr 1).trans rfl; have rf1 := blk_frozen F50.out.hr 1; have rc2 : w50.cell? ⟨gr, 2, none⟩ = some (.int .i64 0) := (blk_cell F50.out.hr 2).trans rfl; have rf2 := blk_frozen F50.out.hr 2; have rc3 : w50.cell? ⟨gr, 3, none⟩ = some (.int .i64 0) := (blk_cell F50.out.hr 3).trans rfl; have rf3 := blk_frozen F50.out.hr 3; have rc4 : w50.cell? ⟨gr, 4, none⟩ = some (.int .i64 0) := (blk_cell F50.out.hr 4).trans rfl; have rf4 := blk_frozen F50.out.hr 4; have rc5 : w50.cell? ⟨gr, 5, none⟩ = some (.int .i64 0) := (blk_cell F50.out.hr 5).trans rfl; have rf5 := blk_frozen F50.out.hr 5; have rc6 : w50.cell? ⟨gr, 6, none⟩ = some (.int .i64 0) := (blk_cell F50.out.hr 6).trans rfl; have rf6 := blk_frozen F50.out.hr 6; have rc7 : w50.cell? ⟨gr, 7, none⟩ = some (.int .i64 0) := (blk_cell F50.out.hr 7).trans rfl; have rf7 := blk_frozen F50.out.hr 7; have rc8 : w50.cell? ⟨gr, 8, none⟩ = some (.bool false) := (blk_cell F50.out.hr 8).trans rfl; have rf8 := blk_frozen F50.out.hr 8; have rc9 : w50.cell? ⟨gr, 9, none⟩ = some (.slice none 0 0) := (blk_cell F50.out.hr 9).trans rfl; have rf9 := blk_frozen F50.out.hr 9; have rc10 : w50.cell? ⟨gr, 10, none⟩ = some (.slice none 0 0) := (blk_cell F50.out.hr 10).trans rfl; have rf10 := blk_frozen F50.out.hr 10
          go_wp2_with fail
          refine bodyPost_ret (results_ct rfl _ _ gr 28 #[.int .i64 0, .int .i64 0, .int .i64 0, .int .i64 0, .int .i64 0, .int .i64 0, .int .i64 0, .int .i64 0, .bool false, .slice none 0 0, .slice none 0 0] (0, 0) _ rfl (set11_blk F50.out.hr (.int .i64 0) (.int .i64 0) (.int .i64 0) (.int .i64 0) (.int .i64 0) (.int .i64 0) (.int .i64 0) (.int .i64 0) (.bool false) (.slice none 0 0) (.slice none 0 0)) Try.underlying28 rfl (by kernel_rfl)) rfl ?_
          rw [HFR.out]
          refine ⟨set11_far (g := gr) F50.out.keep (by have := F50.out.ne; omega) (.int .i64 0) (.int .i64 0) (.int .i64 0) (.int .i64 0) (.int .i64 0) (.int .i64 0) (.int .i64 0) (.int .i64 0) (.bool false) (.slice none 0 0) (.slice none 0 0), set11_below (g := gr) F50.out.bel (by have := F50.out.ne; omega) (.int .i64 0) (.int .i64 0) (.int .i64 0) (.int .i64 0) (.int .i64 0) (.int .i64 0) (.int .i64 0) (.int .i64 0) (.bool false) (.slice none 0 0) (.slice none 0 0), R50.out.kept (set11_kept w50 gr (.int .i64 0) (.int .i64 0) (.int .i64 0) (.int .i64 0) (.int .i64 0) (.int .i64 0) (.int .i64 0) (.int .i64 0) (.bool false) (.slice none 0 0) (.slice none 0 0)) (fun k hk => by subst hk; have := F50.out.ne; exact ⟨by omega, .inl (by omega)⟩), .slice none 0 0, .slice none 0 0, rfl, Kd.R_nil _ _ _ _ _, Kd.R_nil _ _ _ _ _⟩
        have y1 : decide ((j2 : Int) > 0) = true := decide_eq_true (by omega)
        have y2 : decide (0 < (j2 : Int)) = true := decide_eq_true (by omega)
        have y3 : decide (0 < j2) = true := decide_eq_true (by omega)
        have y4 := eq_true (show 0 < j2 by omega)
        by_cases hq : eq = 0
        · have y5 : (eq == 0) = true := beq_iff_eq.mpr hq
          obtain ⟨i2, rfl⟩ : ∃ i, j2 = i + 1 := ⟨j2 - 1, by omega⟩
          obtain ⟨nx, pn, en, hqx, hpx, kx5, hfx⟩ := rN_ok HL.out BB.out (e := eq) HJ.out.2.1
          have hstep : netsF l (i2 + 1) (pq, eq) = (nx :: (netsF l i2 (pn, en)).1, (netsF l i2 (pn, en)).2) := by
            simp only [netsF, hq, if_true]
            rw [hq] at hqx
            simp only [hqx]
          have HNX := Aside0.mk (show netsF l nt (q1, f1) = ((nc ++ [nx]) ++ (netsF l i2 (pn, en)).1, (netsF l i2 (pn, en)).2) by rw [HNS.out, hstep]; simp)
          have HA5 := Aside0.mk hfx; have HPX := Aside0.mk hpx
          have b2 : wrap64 (((i2 + 1 : Nat) : Int) - 1) = (i2 : Int) := by have := HJ.out; unfold wrap64; omega
          have b3 : wrap64 ((i2 : Int) + 1 - 1) = (i2 : Int) := by have := HJ.out; unfold wrap64; omega
          have b4 : wrap64 (i2 : Int) = (i2 : Int) := by have := HJ.out; unfold wrap64; omega
          have y6 : decide ((i2 : Int) + 1 > 0) = true := decide_eq_true (by omega)
          have y7 : decide (0 < (i2 : Int) + 1) = true := decide_eq_true (by omega)
          clear hq hj2 hqx hpx hfx hstep
          go_wp2_with fail
          refine (rd_Err R40.out (show code_Reader_Err.f l (pq : Int) eq = some (eq, (pq : Int), eq) from rfl)).mono ?_; rintro x w41 ⟨rfl, hR, hb, hk⟩; have F41 := Aside0.mk (F40.out.call hb hk); have R41 := Aside0.mk hR; have O41 := Aside0.mk (Kd.R_keep O40.out hk (fun k q e => by have := q.1.1; have := G0.out; omega)); have Q41 := Aside0.mk (Kd.R_keep Q40.out hk (fun k q e => by have := W30.out; have := G0.out; omega)); have S41 := Aside0.mk (Nat.le_trans S40.out hk.1); clear hR hb hk
          clear pc0
          go_wp2_with fail
          refine start_ (n := 8) (S := fun w' => w'.cell? ⟨gp, 0, none⟩ = some (.pointer (some ⟨g, 0, none⟩)) ∧ w'.cell? ⟨gm, 10, none⟩ = some (.slice A9 nc.length c9)) (ds := [7]) #[false, false, false, false, false, false, false, false] (by kernel_rfl) rfl rfl ⟨(blk_cell (F41.out.drew).hp 0).trans rfl, (blk_cell (F41.out.drew).hm 10).trans rfl⟩ (fun hHeld => ?_)
          refine pure_ (i := 0) (N := some 96) (v := ?_) (a' := ?_) #[true, false, false, false, false, false, false, false] rfl rfl (by kernel_rfl) (fun _ _ _ h => h) (Or.inl ⟨by rfl, ?_⟩) ?_ ?_
          rotate_left
          · intro w'
            go_simp
            with_reducible rfl
          rotate_left
          · simp only [Act.put, List.setIfInBounds_toArray, List.set_cons_zero, List.set_cons_succ, i64_w, i32_w]
            rfl
          refine take_ (i := 1) (N := some 97) (v := ?_) (a' := ?_) #[true, true, false, false, false, false, false, false] rfl rfl (by kernel_rfl) (fun _ _ _ h => h) (Or.inl ⟨by rfl, ?_⟩) hHeld ?_ ?_
          rotate_left
          · rintro w' ⟨s0, s1⟩
            go_simp
            with_reducible rfl
          rotate_left
          · simp only [Act.put, List.setIfInBounds_toArray, List.set_cons_zero, List.set_cons_succ, i64_w, i32_w]
            rfl
          refine take_ (i := 2) (N := some 98) (v := ?_) (a' := ?_) #[true, true, true, false, false, false, false, false] rfl rfl (by kernel_rfl) (fun _ _ _ h => h) (Or.inl ⟨by rfl, ?_⟩) hHeld ?_ ?_
          rotate_left
          · rintro w' ⟨s0, s1⟩
            go_simp
            with_reducible rfl
          rotate_left
          · simp only [Act.put, List.setIfInBounds_toArray, List.set_cons_zero, List.set_cons_succ, i64_w, i32_w]
            rfl
          refine one_ (i := 3) (N := some 99) #[true, true, true, true, false, false, false, false] rfl rfl (by kernel_rfl) (by decide) (fun K hK => ?_)
          refine goes_ Try.func34 (by kernel_rfl) rfl #[.pointer (some ⟨g, 0, none⟩)] (by rfl) rfl rfl (by simp only [List.map_toArray, List.map_cons, List.map_nil]; rfl) ?_
          with_reducible refine (rd_Num (w := w41.drew) R41.out.drew HA5.out).mono ?_
          rintro e w42 ⟨rfl, hR, hb, hk⟩
          refine ⟨_, rfl, ?_⟩
          have F42 := Aside0.mk (F41.out.drew.call hb hk)
          have R42 := Aside0.mk hR
          have O42 := Aside0.mk (Kd.R_keep (Kd.R_drew O41.out) hk (fun k q e => by have := q.1.1; have := G0.out; omega))
          have Q42 := Aside0.mk (Kd.R_keep (Kd.R_drew Q41.out) hk (fun k q e => by have := W30.out; have := G0.out; omega))
          have S42 := Aside0.mk (Nat.le_trans S41.out hk.1)
          clear hR hb hk
          refine hK.out _ _ ⟨(blk_cell (F42.out).hp 0).trans rfl, (blk_cell (F42.out).hm 10).trans rfl⟩ (fun hHeld => ?_)
          clear hK K
          refine norm_ (a' := ?_) ?_ ?_
          rotate_left
          · show Act.put _ (some 99) _ = _
            simp only [Act.put, List.setIfInBounds_toArray, List.set_cons_zero, List.set_cons_succ, i64_w, i32_w]
            rfl
          refine one_ (i := 4) (N := some 100) #[true, true, true, true, true, false, false, false] rfl rfl (by kernel_rfl) (by decide) (fun K hK => ?_)
          refine Kd.R_lit_step (Kd.int .i64) (w0 := w42) w42.heap.size 2 (by rfl) (N := 100) ?hd (xs := [nx]) (inner := [.int .i64 nx]) (ok := fun _ => True) (okp := fun _ => True) ?hr ?hp (fun _ hk => hk) trivial (Below.refl _ _) (Nat.le_refl _) (by simp) ?_
          (case hd => rfl)
          (case hr => first | (go_simp; done) | (go_simp; rfl))
          (case hp => exact (Reps.one (show Kd.M (Kd.int .i64) _ _ _ nx [.int .i64 nx] from rfl) (Reps.none _ _)))
          intro vL w43 hoL hb hg_ hnew_
          obtain ⟨AL, cL, eL, hcL, hrL⟩ := Kd.R_reads hoL
          subst eL
          have RL := Aside0.mk hrL
          have F43 := Aside0.mk (F42.out.below hb)
          have R43 := Aside0.mk (R42.out.below hb)
          have O43 := Aside0.mk (Kd.R_below O42.out hb)
          have Q43 := Aside0.mk (Kd.R_below Q42.out hb)
          have S43 := Aside0.mk (Nat.le_trans S42.out hb.size)
          clear hoL hb hg_ hnew_ hcL hrL
          refine hK.out _ _ ⟨(blk_cell (F43.out).hp 0).trans rfl, (blk_cell (F43.out).hm 10).trans rfl⟩ (fun hHeld => ?_)
          clear hK K
          refine norm_ (a' := ?_) ?_ ?_
          rotate_left
          · show Act.put _ (some 100) _ = _
            simp only [Act.put, List.setIfInBounds_toArray, List.set_cons_zero, List.set_cons_succ, i64_w, i32_w]
            rfl
          refine one_ (i := 5) (N := some 101) #[true, true, true, true, true, true, false, false] rfl rfl (by kernel_rfl) (by decide) (fun K hK => ?_)
          refine Kd.R_append_rows_step (Kd.int .i64) (w0 := w43) w.heap.size (by rfl) (.tmp 97) (.tmp 100) 26 2 (.int .i64 0) 8 rfl Try.underlying26 info2 rfl (by decide) (by omega) (.slice A9 nc.length c9) nc [nx] _ _ _ (fun k => w30.heap.size ≤ k) (fun _ => False) rfl rfl ?aO ?aR (fun _ _ h => h) (fun _ h => h.elim) ?aF ?aB ?aS ?aL ?_
          (case aR => exact RL.out)
          (case aB => exact Below.refl _ _)
          (case aF => exact (fun k hk => Nat.le_trans S43.out hk))
          (case aO => exact Q43.out)
          (case aS => exact Nat.le_trans W30.out S43.out)
          (case aL => have := HJ.out; simp only [List.length_singleton]; omega)
          intro v44 w44 ho hb hg hat
          obtain ⟨A44, c44, e44⟩ := Kd.R_slice ho
          subst e44
          rw [List.length_append, List.length_singleton] at ho
          have Q44 := Aside0.mk ho
          have hne := (fun k (e : some k = (Value.slice A9 nc.length c9).ownBlock) => Q43.out.1 k e.symm)
          have F44 := Aside0.mk (F43.out.grown hb hg (fun e => Nat.not_lt.mpr (hne _ e) LT30.out.1) (fun e => Nat.not_lt.mpr (hne _ e) LT30.out.2.1) (fun e => Nat.not_lt.mpr (hne _ e) LT30.out.2.2))
          have R44 := Aside0.mk (R43.out.grown hb G0.out)
          have O44 := Aside0.mk (Kd.R_grown O43.out hg (fun k hk e => Nat.not_lt.mpr (hne _ e) hk.2))
          have S44 := Aside0.mk (Nat.le_trans S43.out hg.size)
          clear ho hb hg hat hne
          have mc0 : w44.cell? ⟨gm, 0, none⟩ = some (.int .i64 kx) := (blk_cell F44.out.hm 0).trans rfl
          have mf0 := blk_frozen F44.out.hm 0
          have mc1 : w44.cell? ⟨gm, 1, none⟩ = some (.int .i64 ax) := (blk_cell F44.out.hm 1).trans rfl
          have mf1 := blk_frozen F44.out.hm 1
          have mc2 : w44.cell? ⟨gm, 2, none⟩ = some (.int .i64 bx) := (blk_cell F44.out.hm 2).trans rfl
          have mf2 := blk_frozen F44.out.hm 2
          have mc3 : w44.cell? ⟨gm, 3, none⟩ = some (.int .i64 cx) := (blk_cell F44.out.hm 3).trans rfl
          have mf3 := blk_frozen F44.out.hm 3
          have mc4 : w44.cell? ⟨gm, 4, none⟩ = some (.int .i64 dx) := (blk_cell F44.out.hm 4).trans rfl
          have mf4 := blk_frozen F44.out.hm 4
          have mc5 : w44.cell? ⟨gm, 5, none⟩ = some (.int .i64 fx) := (blk_cell F44.out.hm 5).trans rfl
          have mf5 := blk_frozen F44.out.hm 5
          have mc6 : w44.cell? ⟨gm, 6, none⟩ = some (.int .i64 hx) := (blk_cell F44.out.hm 6).trans rfl
          have mf6 := blk_frozen F44.out.hm 6
          have mc7 : w44.cell? ⟨gm, 7, none⟩ = some (.int .i64 am) := (blk_cell F44.out.hm 7).trans rfl
          have mf7 := blk_frozen F44.out.hm 7
          have mc8 : w44.cell? ⟨gm, 8, none⟩ = some (.bool ye) := (blk_cell F44.out.hm 8).trans rfl
          have mf8 := blk_frozen F44.out.hm 8
          have mc9 : w44.cell? ⟨gm, 9, none⟩ = some (.slice A8 acc.length c8) := (blk_cell F44.out.hm 9).trans rfl
          have mf9 := blk_frozen F44.out.hm 9
          have mc10 : w44.cell? ⟨gm, 10, none⟩ = some (.slice A9 nc.length c9) := (blk_cell F44.out.hm 10).trans rfl
          have mf10 := blk_frozen F44.out.hm 10
          refine hK.out _ _ ⟨(blk_cell (F44.out).hp 0).trans rfl, (blk_cell (F44.out).hm 10).trans rfl⟩ (fun hHeld => ?_)
          clear hK K
          refine norm_ (a' := ?_) ?_ ?_
          rotate_left
          · show Act.put _ (some 101) _ = _
            simp only [Act.put, List.setIfInBounds_toArray, List.set_cons_zero, List.set_cons_succ, i64_w, i32_w]
            rfl
          refine pure_ (i := 6) (N := some 102) (v := ?_) (a' := ?_) #[true, true, true, true, true, true, true, false] rfl rfl (by kernel_rfl) (fun _ _ _ h => h) (Or.inl ⟨by rfl, ?_⟩) ?_ ?_
          rotate_left
          · intro w'
            go_simp
            with_reducible rfl
          rotate_left
          · simp only [Act.put, List.setIfInBounds_toArray, List.set_cons_zero, List.set_cons_succ, i64_w, i32_w]
            rfl
          refine last_ (i := 7) (N := none) #[true, true, true, true, true, true, true, true] rfl rfl (by kernel_rfl) (by decide) (fun K hK => ?_)
          refine skip_ (w1 := ?_) (by rfl) rfl ?_ ?_
          rotate_left
          · go_simp
            rfl
          refine hK.out _ _ ?_
          clear hK K
          refine done_ (by kernel_rfl) ?_


          go_wp2_with fail
          go_roundg (gk - 1)
          case measure => have := HJ.out; omega
          case rel => exact ⟨i2, pn, en, nc ++ [nx], _, (by first | rw [b2] | rw [b3] | rw [b4] | rfl), ⟨by have := HJ.out; omega, HPX.out, by have := HJ.out; simp only [List.length_append, List.length_singleton]; omega⟩, HNX, ⟨R44.out.set (gx := gm) (by have := F44.out.ne; omega) 10 _⟩, ⟨F44.out.put 10 _ rfl⟩, ⟨Kd.R_kept O44.out ((Kept.refl w44 (fun k => k = gm)).setCell (p := ⟨gm, 10, none⟩) (.inl rfl) _) (fun k hk e => hk.1.2.2.2 e)⟩, ⟨Kd.R_kept Q44.out ((Kept.refl w44 (fun k => k = gm)).setCell (p := ⟨gm, 10, none⟩) (.inl rfl) _) (fun k hk e => by subst e; exact absurd LT30.out.2.2 (Nat.not_lt.mpr hk))⟩, ⟨by simpa [World.setCell] using S44.out⟩⟩
        have y5 : (eq == 0) = false := beq_eq_false_iff_ne.mpr hq
        have HNE := Aside0.mk (show netsF l nt (q1, f1) = (nc, pq, eq) by rw [HNS.out]; obtain ⟨i, rfl⟩ : ∃ i, j2 = i + 1 := ⟨j2 - 1, by omega⟩; simp [netsF, hq])
        clear hq hj2
        go_wp2_with fail
        refine (rd_Err R40.out (show code_Reader_Err.f l (pq : Int) eq = some (eq, (pq : Int), eq) from rfl)).mono ?_; rintro x w41 ⟨rfl, hR, hb, hk⟩; have F41 := Aside0.mk (F40.out.call hb hk); have R41 := Aside0.mk hR; have O41 := Aside0.mk (Kd.R_keep O40.out hk (fun k q e => by have := q.1.1; have := G0.out; omega)); have Q41 := Aside0.mk (Kd.R_keep Q40.out hk (fun k q e => by have := W30.out; have := G0.out; omega)); clear hR hb hk
        clear pc0
        have pc0 : w41.cell? ⟨gp, 0, none⟩ = some (.pointer (some ⟨g, 0, none⟩)) := (blk_cell F41.out.hp 0).trans rfl
        go_wp2_with fail
        refine (rd_Err R41.out (show code_Reader_Err.f l (pq : Int) eq = some (eq, (pq : Int), eq) from rfl)).mono ?_; rintro x w50 ⟨rfl, hR, hb, hk⟩; have F50 := Aside0.mk (F41.out.call hb hk); have R50 := Aside0.mk hR; have O50 := Aside0.mk (Kd.R_keep O41.out hk (fun k q e => by have := q.1.1; have := G0.out; omega)); have Q50 := Aside0.mk (Kd.R_keep Q41.out hk (fun k q e => by have := W30.out; have := G0.out; omega)); clear hR hb hk
        clear pc0
        by_cases hz : eq = 0
        · have z1 : (eq != 0) = false := bne_eq_false_iff_eq.mpr hz
          have HFR := Aside0.mk (show fromF l (p0, e0) = (⟨kx, ⟨ax, bx⟩, cx, dx, fx, hx, am, ye, acc, nc⟩, 0, pq, eq) by unfold fromF; simp only [HQ1.out, HQ2.out, HQ3.out, HQ4.out, HQ5.out, HQ6.out, HQ7.out, HQ8.out, HQ9.out, HQ10.out, Int.toNat_natCast, HLE.out, HQN.out, HNE.out]; rw [if_neg HOK.out, if_pos hz])
          clear hz
          have mc0 : w50.cell? ⟨gm, 0, none⟩ = some (.int .i64 kx) := (blk_cell F50.out.hm 0).trans rfl; have mf0 := blk_frozen F50.out.hm 0; have mc1 : w50.cell? ⟨gm, 1, none⟩ = some (.int .i64 ax) := (blk_cell F50.out.hm 1).trans rfl; have mf1 := blk_frozen F50.out.hm 1; have mc2 : w50.cell? ⟨gm, 2, none⟩ = some (.int .i64 bx) := (blk_cell F50.out.hm 2).trans rfl; have mf2 := blk_frozen F50.out.hm 2; have mc3 : w50.cell? ⟨gm, 3, none⟩ = some (.int .i64 cx) := (blk_cell F50.out.hm 3).trans rfl; have mf3 := blk_frozen F50.out.hm 3; have mc4 : w50.cell? ⟨gm, 4, none⟩ = some (.int .i64 dx) := (blk_cell F50.out.hm 4).trans rfl; have mf4 := blk_frozen F50.out.hm 4; have mc5 : w50.cell? ⟨gm, 5, none⟩ = some (.int .i64 fx) := (blk_cell F50.out.hm 5).trans rfl; have mf5 := blk_frozen F50.out.hm 5; have mc6 : w50.cell? ⟨gm, 6, none⟩ = some (.int .i64 hx) := (blk_cell F50.out.hm 6).trans rfl; have mf6 := blk_frozen F50.out.hm 6; have mc7 : w50.cell? ⟨gm, 7, none⟩ = some (.int .i64 am) := (blk_cell F50.out.hm 7).trans rfl; have mf7 := blk_frozen F50.out.hm 7; have mc8 : w50.cell? ⟨gm, 8, none⟩ = some (.bool ye) := (blk_cell F50.out.hm 8).trans rfl; have mf8 := blk_frozen F50.out.hm 8; have mc9 : w50.cell? ⟨gm, 9, none⟩ = some (.slice A8 acc.length c8) := (blk_cell F50.out.hm 9).trans rfl; have mf9 := blk_frozen F50.out.hm 9; have mc10 : w50.cell? ⟨gm, 10, none⟩ = some (.slice A9 nc.length c9) := (blk_cell F50.out.hm 10).trans rfl; have mf10 := blk_frozen F50.out.hm 10
          have rc0 : w50.cell? ⟨gr, 0, none⟩ = some (.int .i64 0) := (blk_cell F50.out.hr 0).trans rfl; have rf0 := blk_frozen F50.out.hr 0; have rc1 : w50.cell? ⟨gr, 1, none⟩ = some (.int .i64 0) := (blk_cell F50.out.hr 1).trans rfl; have rf1 := blk_frozen F50.out.hr 1; have rc2 : w50.cell? ⟨gr, 2, none⟩ = some (.int .i64 0) := (blk_cell F50.out.hr 2).trans rfl; have rf2 := blk_frozen F50.out.hr 2; have rc3 : w50.cell? ⟨gr, 3, none⟩ = some (.int .i64 0) := (blk_cell F50.out.hr 3).trans rfl; have rf3 := blk_frozen F50.out.hr 3; have rc4 : w50.cell? ⟨gr, 4, none⟩ = some (.int .i64 0) := (blk_cell F50.out.hr 4).trans rfl; have rf4 := blk_frozen F50.out.hr 4; have rc5 : w50.cell? ⟨gr, 5, none⟩ = some (.int .i64 0) := (blk_cell F50.out.hr 5).trans rfl; have rf5 := blk_frozen F50.out.hr 5; have rc6 : w50.cell? ⟨gr, 6, none⟩ = some (.int .i64 0) := (blk_cell F50.out.hr 6).trans rfl; have rf6 := blk_frozen F50.out.hr 6; have rc7 : w50.cell? ⟨gr, 7, none⟩ = some (.int .i64 0) := (blk_cell F50.out.hr 7).trans rfl; have rf7 := blk_frozen F50.out.hr 7; have rc8 : w50.cell? ⟨gr, 8, none⟩ = some (.bool false) := (blk_cell F50.out.hr 8).trans rfl; have rf8 := blk_frozen F50.out.hr 8; have rc9 : w50.cell? ⟨gr, 9, none⟩ = some (.slice none 0 0) := (blk_cell F50.out.hr 9).trans rfl; have rf9 := blk_frozen F50.out.hr 9; have rc10 : w50.cell? ⟨gr, 10, none⟩ = some (.slice none 0 0) := (blk_cell F50.out.hr 10).trans rfl; have rf10 := blk_frozen F50.out.hr 10
          go_wp2_with fail
          refine bodyPost_ret (results_ct rfl _ _ gr 28 #[.int .i64 kx, .int .i64 ax, .int .i64 bx, .int .i64 cx, .int .i64 dx, .int .i64 fx, .int .i64 hx, .int .i64 am, .bool ye, .slice A8 acc.length c8, .slice A9 nc.length c9] (0, 0) _ rfl (set11_blk F50.out.hr (.int .i64 kx) (.int .i64 ax) (.int .i64 bx) (.int .i64 cx) (.int .i64 dx) (.int .i64 fx) (.int .i64 hx) (.int .i64 am) (.bool ye) (.slice A8 acc.length c8) (.slice A9 nc.length c9)) Try.underlying28 rfl (by kernel_rfl)) rfl ?_
          rw [HFR.out]
          exact ⟨set11_far (g := gr) F50.out.keep (by have := F50.out.ne; omega) (.int .i64 kx) (.int .i64 ax) (.int .i64 bx) (.int .i64 cx) (.int .i64 dx) (.int .i64 fx) (.int .i64 hx) (.int .i64 am) (.bool ye) (.slice A8 acc.length c8) (.slice A9 nc.length c9), set11_below (g := gr) F50.out.bel (by have := F50.out.ne; omega) (.int .i64 kx) (.int .i64 ax) (.int .i64 bx) (.int .i64 cx) (.int .i64 dx) (.int .i64 fx) (.int .i64 hx) (.int .i64 am) (.bool ye) (.slice A8 acc.length c8) (.slice A9 nc.length c9), R50.out.kept (set11_kept w50 gr (.int .i64 kx) (.int .i64 ax) (.int .i64 bx) (.int .i64 cx) (.int .i64 dx) (.int .i64 fx) (.int .i64 hx) (.int .i64 am) (.bool ye) (.slice A8 acc.length c8) (.slice A9 nc.length c9)) (fun k hk => by subst hk; have := F50.out.ne; exact ⟨by omega, .inl (by omega)⟩), _, _, rfl, Kd.R_mono (Kd.R_kept O50.out (set11_kept w50 gr (.int .i64 kx) (.int .i64 ax) (.int .i64 bx) (.int .i64 cx) (.int .i64 dx) (.int .i64 fx) (.int .i64 hx) (.int .i64 am) (.bool ye) (.slice A8 acc.length c8) (.slice A9 nc.length c9)) (fun k hk e => hk.1.2.2.1 e)) (fun _ _ => trivial), Kd.R_mono (Kd.R_kept Q50.out (set11_kept w50 gr (.int .i64 kx) (.int .i64 ax) (.int .i64 bx) (.int .i64 cx) (.int .i64 dx) (.int .i64 fx) (.int .i64 hx) (.int .i64 am) (.bool ye) (.slice A8 acc.length c8) (.slice A9 nc.length c9)) (fun k hk e => by subst e; exact absurd LT30.out.2.1 (Nat.not_lt.mpr hk))) (fun k hk e => absurd (O50.out.1 k e.symm).2 (Nat.not_lt.mpr hk))⟩
        have z1 : (eq != 0) = true := bne_iff_ne.mpr hz
        have HFR := Aside0.mk (show fromF l (p0, e0) = (z28, eq, pq, eq) by unfold fromF; simp only [HQ1.out, HQ2.out, HQ3.out, HQ4.out, HQ5.out, HQ6.out, HQ7.out, HQ8.out, HQ9.out, HQ10.out, Int.toNat_natCast, HLE.out, HQN.out, HNE.out]; rw [if_neg HOK.out, if_neg hz])
        clear hz
        have rc0 : w50.cell? ⟨gr, 0, none⟩ = some (.int .i64 0) := (blk_cell F50.out.hr 0).trans rfl; have rf0 := blk_frozen F50.out.hr 0; have rc1 : w50.cell? ⟨gr, 1, none⟩ = some (.int .i64 0) := (blk_cell F50.out.hr 1).trans rfl; have rf1 := blk_frozen F50.out.hr 1; have rc2 : w50.cell? ⟨gr, 2, none⟩ = some (.int .i64 0) := (blk_cell F50.out.hr 2).trans rfl; have rf2 := blk_frozen F50.out.hr 2; have rc3 : w50.cell? ⟨gr, 3, none⟩ = some (.int .i64 0) := (blk_cell F50.out.hr 3).trans rfl; have rf3 := blk_frozen F50.out.hr 3; have rc4 : w50.cell? ⟨gr, 4, none⟩ = some (.int .i64 0) := (blk_cell F50.out.hr 4).trans rfl; have rf4 := blk_frozen F50.out.hr 4; have rc5 : w50.cell? ⟨gr, 5, none⟩ = some (.int .i64 0) := (blk_cell F50.out.hr 5).trans rfl; have rf5 := blk_frozen F50.out.hr 5; have rc6 : w50.cell? ⟨gr, 6, none⟩ = some (.int .i64 0) := (blk_cell F50.out.hr 6).trans rfl; have rf6 := blk_frozen F50.out.hr 6; have rc7 : w50.cell? ⟨gr, 7, none⟩ = some (.int .i64 0) := (blk_cell F50.out.hr 7).trans rfl; have rf7 := blk_frozen F50.out.hr 7; have rc8 : w50.cell? ⟨gr, 8, none⟩ = some (.bool false) := (blk_cell F50.out.hr 8).trans rfl; have rf8 := blk_frozen F50.out.hr 8; have rc9 : w50.cell? ⟨gr, 9, none⟩ = some (.slice none 0 0) := (blk_cell F50.out.hr 9).trans rfl; have rf9 := blk_frozen F50.out.hr 9; have rc10 : w50.cell? ⟨gr, 10, none⟩ = some (.slice none 0 0) := (blk_cell F50.out.hr 10).trans rfl; have rf10 := blk_frozen F50.out.hr 10
        go_wp2_with fail
        refine bodyPost_ret (results_ct rfl _ _ gr 28 #[.int .i64 0, .int .i64 0, .int .i64 0, .int .i64 0, .int .i64 0, .int .i64 0, .int .i64 0, .int .i64 0, .bool false, .slice none 0 0, .slice none 0 0] (0, 0) _ rfl (set11_blk F50.out.hr (.int .i64 0) (.int .i64 0) (.int .i64 0) (.int .i64 0) (.int .i64 0) (.int .i64 0) (.int .i64 0) (.int .i64 0) (.bool false) (.slice none 0 0) (.slice none 0 0)) Try.underlying28 rfl (by kernel_rfl)) rfl ?_
        rw [HFR.out]
        refine ⟨set11_far (g := gr) F50.out.keep (by have := F50.out.ne; omega) (.int .i64 0) (.int .i64 0) (.int .i64 0) (.int .i64 0) (.int .i64 0) (.int .i64 0) (.int .i64 0) (.int .i64 0) (.bool false) (.slice none 0 0) (.slice none 0 0), set11_below (g := gr) F50.out.bel (by have := F50.out.ne; omega) (.int .i64 0) (.int .i64 0) (.int .i64 0) (.int .i64 0) (.int .i64 0) (.int .i64 0) (.int .i64 0) (.int .i64 0) (.bool false) (.slice none 0 0) (.slice none 0 0), R50.out.kept (set11_kept w50 gr (.int .i64 0) (.int .i64 0) (.int .i64 0) (.int .i64 0) (.int .i64 0) (.int .i64 0) (.int .i64 0) (.int .i64 0) (.bool false) (.slice none 0 0) (.slice none 0 0)) (fun k hk => by subst hk; have := F50.out.ne; exact ⟨by omega, .inl (by omega)⟩), .slice none 0 0, .slice none 0 0, rfl, Kd.R_nil _ _ _ _ _, Kd.R_nil _ _ _ _ _⟩
  have t0 : (e1 == 0) = false := beq_eq_false_iff_ne.mpr hk0
  have HOK := Aside0.mk (show ¬ (e1 = 0 ∧ (kx < 1 ∨ kx > 16)) from fun q => hk0 q.1)
  clear hk0
  go_enter Try.func18, Try.ntmps18
  go_wp2_with (first | ((with_reducible refine gate_dst (N := 1) rfl ?_); refine box_event ?hg (N := 1) ?hd (cs := #[.pointer (some ⟨g, 0, none⟩)]) (t := 44) ?hr ?_; (case hd => rfl); (case hg => rfl); (case hr => first | (go_simp; done) | (go_simp; rfl)); intro gp hg w1 hbox hb; have P1 := Aside0.mk hbox; have R1 := Aside0.mk (R0.out.below hb); have B1 := Aside0.mk hb; have GP := Aside0.mk hg; clear hb hg hbox) | ((with_reducible refine gate_dst (N := 2) rfl ?_); refine box_event ?hg (N := 2) ?hd (cs := #[.int .i64 0, .int .i64 0, .int .i64 0, .int .i64 0, .int .i64 0, .int .i64 0, .int .i64 0, .int .i64 0, .bool false, .slice none 0 0, .slice none 0 0]) (t := 28) ?hr ?_; (case hd => rfl); (case hg => rfl); (case hr => first | (go_simp; done) | (go_simp; rfl)); intro gr hg w2 hbox hb; have P2 := Aside0.mk (blk_below P1.out hb); have A2 := Aside0.mk hbox; have R2 := Aside0.mk (R1.out.below hb); have B2 := Aside0.mk (below_step B1.out hb); have GR := Aside0.mk (show w.heap.size ≤ gr ∧ gp ≠ gr from ⟨by rw [hg]; exact B1.out.size, by rw [hg]; exact Nat.ne_of_lt (blk_lt P1.out)⟩); clear hb hg hbox) | ((with_reducible refine gate_dst (N := 4) rfl ?_); refine box_event ?hg (N := 4) ?hd (cs := #[.int .i64 0, .int .i64 0, .int .i64 0, .int .i64 0, .int .i64 0, .int .i64 0, .int .i64 0, .int .i64 0, .bool false, .slice none 0 0, .slice none 0 0]) (t := 28) ?hr ?_; (case hd => rfl); (case hg => rfl); (case hr => first | (go_simp; done) | (go_simp; rfl)); intro gm hg w3 hbox hb; have R3 := Aside0.mk (R2.out.below hb); have F3 := Aside0.mk (FM.mk (KeepBut.of_below (below_step B2.out hb) g none) ((below_step B2.out hb).mono (Nat.le_of_lt G0.out)) (blk_below P2.out hb) (blk_below A2.out hb) hbox ⟨G0.out, by rw [GP.out]; exact Nat.le_refl _, GR.out.1, by rw [hg]; exact B2.out.size, GR.out.2, by rw [hg]; exact Nat.ne_of_lt (blk_lt P2.out), by rw [hg]; exact Nat.ne_of_lt (blk_lt A2.out)⟩); have pc0 : w3.cell? ⟨gp, 0, none⟩ = some (.pointer (some ⟨g, 0, none⟩)) := (blk_cell F3.out.hp 0).trans rfl; clear hb hg hbox))
  refine (rd_Int 0 1073741824 R3.out HF1.out).mono ?_; rintro x w4 ⟨rfl, hR, hb, hk⟩; have F4 := Aside0.mk (F3.out.call hb hk); have R4 := Aside0.mk hR; clear hR hb hk
  clear pc0
  have mc0 : w4.cell? ⟨gm, 0, none⟩ = some (.int .i64 0) := (blk_cell F4.out.hm 0).trans rfl; have mf0 := blk_frozen F4.out.hm 0; have mc1 : w4.cell? ⟨gm, 1, none⟩ = some (.int .i64 0) := (blk_cell F4.out.hm 1).trans rfl; have mf1 := blk_frozen F4.out.hm 1; have mc2 : w4.cell? ⟨gm, 2, none⟩ = some (.int .i64 0) := (blk_cell F4.out.hm 2).trans rfl; have mf2 := blk_frozen F4.out.hm 2; have mc3 : w4.cell? ⟨gm, 3, none⟩ = some (.int .i64 0) := (blk_cell F4.out.hm 3).trans rfl; have mf3 := blk_frozen F4.out.hm 3; have mc4 : w4.cell? ⟨gm, 4, none⟩ = some (.int .i64 0) := (blk_cell F4.out.hm 4).trans rfl; have mf4 := blk_frozen F4.out.hm 4; have mc5 : w4.cell? ⟨gm, 5, none⟩ = some (.int .i64 0) := (blk_cell F4.out.hm 5).trans rfl; have mf5 := blk_frozen F4.out.hm 5; have mc6 : w4.cell? ⟨gm, 6, none⟩ = some (.int .i64 0) := (blk_cell F4.out.hm 6).trans rfl; have mf6 := blk_frozen F4.out.hm 6; have mc7 : w4.cell? ⟨gm, 7, none⟩ = some (.int .i64 0) := (blk_cell F4.out.hm 7).trans rfl; have mf7 := blk_frozen F4.out.hm 7; have mc8 : w4.cell? ⟨gm, 8, none⟩ = some (.bool false) := (blk_cell F4.out.hm 8).trans rfl; have mf8 := blk_frozen F4.out.hm 8; have mc9 : w4.cell? ⟨gm, 9, none⟩ = some (.slice none 0 0) := (blk_cell F4.out.hm 9).trans rfl; have mf9 := blk_frozen F4.out.hm 9; have mc10 : w4.cell? ⟨gm, 10, none⟩ = some (.slice none 0 0) := (blk_cell F4.out.hm 10).trans rfl; have mf10 := blk_frozen F4.out.hm 10
  go_wp2_with (first | ((with_reducible refine gate_dst (N := 13) rfl ?_); have F5 := Aside0.mk (F4.out.put 0 (.int .i64 kx) (cs' := #[.int .i64 kx, .int .i64 0, .int .i64 0, .int .i64 0, .int .i64 0, .int .i64 0, .int .i64 0, .int .i64 0, .bool false, .slice none 0 0, .slice none 0 0]) rfl); have R5 := Aside0.mk (R4.out.set (gx := gm) (by have := F4.out.ne; omega) 0 (.int .i64 kx)); clear F4 R4 mc0 mf0 mc1 mf1 mc2 mf2 mc3 mf3 mc4 mf4 mc5 mf5 mc6 mf6 mc7 mf7 mc8 mf8 mc9 mf9 mc10 mf10; generalize w4.setCell ⟨gm, 0, none⟩ (.int .i64 kx) = w5 at F5 R5 ⊢; have pc0 : w5.cell? ⟨gp, 0, none⟩ = some (.pointer (some ⟨g, 0, none⟩)) := (blk_cell F5.out.hp 0).trans rfl))
  refine (rd_Err R5.out (show code_Reader_Err.f l (p1 : Int) e1 = some (e1, (p1 : Int), e1) from rfl)).mono ?_; rintro x w6 ⟨rfl, hR, hb, hk⟩; have F6 := Aside0.mk (F5.out.call hb hk); have R6 := Aside0.mk hR; clear hR hb hk
  clear pc0
  have mc0 : w6.cell? ⟨gm, 0, none⟩ = some (.int .i64 kx) := (blk_cell F6.out.hm 0).trans rfl; have mf0 := blk_frozen F6.out.hm 0; have mc1 : w6.cell? ⟨gm, 1, none⟩ = some (.int .i64 0) := (blk_cell F6.out.hm 1).trans rfl; have mf1 := blk_frozen F6.out.hm 1; have mc2 : w6.cell? ⟨gm, 2, none⟩ = some (.int .i64 0) := (blk_cell F6.out.hm 2).trans rfl; have mf2 := blk_frozen F6.out.hm 2; have mc3 : w6.cell? ⟨gm, 3, none⟩ = some (.int .i64 0) := (blk_cell F6.out.hm 3).trans rfl; have mf3 := blk_frozen F6.out.hm 3; have mc4 : w6.cell? ⟨gm, 4, none⟩ = some (.int .i64 0) := (blk_cell F6.out.hm 4).trans rfl; have mf4 := blk_frozen F6.out.hm 4; have mc5 : w6.cell? ⟨gm, 5, none⟩ = some (.int .i64 0) := (blk_cell F6.out.hm 5).trans rfl; have mf5 := blk_frozen F6.out.hm 5; have mc6 : w6.cell? ⟨gm, 6, none⟩ = some (.int .i64 0) := (blk_cell F6.out.hm 6).trans rfl; have mf6 := blk_frozen F6.out.hm 6; have mc7 : w6.cell? ⟨gm, 7, none⟩ = some (.int .i64 0) := (blk_cell F6.out.hm 7).trans rfl; have mf7 := blk_frozen F6.out.hm 7; have mc8 : w6.cell? ⟨gm, 8, none⟩ = some (.bool false) := (blk_cell F6.out.hm 8).trans rfl; have mf8 := blk_frozen F6.out.hm 8; have mc9 : w6.cell? ⟨gm, 9, none⟩ = some (.slice none 0 0) := (blk_cell F6.out.hm 9).trans rfl; have mf9 := blk_frozen F6.out.hm 9; have mc10 : w6.cell? ⟨gm, 10, none⟩ = some (.slice none 0 0) := (blk_cell F6.out.hm 10).trans rfl; have mf10 := blk_frozen F6.out.hm 10
  have hmf : ∀ (fn : Fn) (first cap : Array Value) (w : World), (Instr.makeFunc fn first cap).run Try.prog w = .ok (.func fn first cap) w := fun _ _ _ _ => rfl
  go_wp2_with fail
  refine (next_calls F6.out R6.out HF2.out).mono ?_; rintro x w7 ⟨rfl, hR, hb, hk⟩; have F7 := Aside0.mk (F6.out.call hb hk); have R7 := Aside0.mk hR; clear hR hb hk
  clear mc0 mf0 mc1 mf1 mc2 mf2 mc3 mf3 mc4 mf4 mc5 mf5 mc6 mf6 mc7 mf7 mc8 mf8 mc9 mf9 mc10 mf10
  go_wp2_with fail
  refine (next_calls F7.out R7.out HF3.out).mono ?_; rintro x w8 ⟨rfl, hR, hb, hk⟩; have F8 := Aside0.mk (F7.out.call hb hk); have R8 := Aside0.mk hR; clear hR hb hk
  go_wp2_with fail
  refine (next_calls F8.out R8.out HF4.out).mono ?_; rintro x w9 ⟨rfl, hR, hb, hk⟩; have F9 := Aside0.mk (F8.out.call hb hk); have R9 := Aside0.mk hR; clear hR hb hk
  go_wp2_with fail
  refine (next_calls F9.out R9.out HF5.out).mono ?_; rintro x w10 ⟨rfl, hR, hb, hk⟩; have F10 := Aside0.mk (F9.out.call hb hk); have R10 := Aside0.mk hR; clear hR hb hk
  go_wp2_with fail
  refine (next_calls F10.out R10.out HF6.out).mono ?_; rintro x w11 ⟨rfl, hR, hb, hk⟩; have F11 := Aside0.mk (F10.out.call hb hk); have R11 := Aside0.mk hR; clear hR hb hk
  go_wp2_with fail
  refine (next_calls F11.out R11.out HF7.out).mono ?_; rintro x w12 ⟨rfl, hR, hb, hk⟩; have F12 := Aside0.mk (F11.out.call hb hk); have R12 := Aside0.mk hR; clear hR hb hk
  have mc0 : w12.cell? ⟨gm, 0, none⟩ = some (.int .i64 kx) := (blk_cell F12.out.hm 0).trans rfl; have mf0 := blk_frozen F12.out.hm 0; have mc1 : w12.cell? ⟨gm, 1, none⟩ = some (.int .i64 0) := (blk_cell F12.out.hm 1).trans rfl; have mf1 := blk_frozen F12.out.hm 1; have mc2 : w12.cell? ⟨gm, 2, none⟩ = some (.int .i64 0) := (blk_cell F12.out.hm 2).trans rfl; have mf2 := blk_frozen F12.out.hm 2; have mc3 : w12.cell? ⟨gm, 3, none⟩ = some (.int .i64 0) := (blk_cell F12.out.hm 3).trans rfl; have mf3 := blk_frozen F12.out.hm 3; have mc4 : w12.cell? ⟨gm, 4, none⟩ = some (.int .i64 0) := (blk_cell F12.out.hm 4).trans rfl; have mf4 := blk_frozen F12.out.hm 4; have mc5 : w12.cell? ⟨gm, 5, none⟩ = some (.int .i64 0) := (blk_cell F12.out.hm 5).trans rfl; have mf5 := blk_frozen F12.out.hm 5; have mc6 : w12.cell? ⟨gm, 6, none⟩ = some (.int .i64 0) := (blk_cell F12.out.hm 6).trans rfl; have mf6 := blk_frozen F12.out.hm 6; have mc7 : w12.cell? ⟨gm, 7, none⟩ = some (.int .i64 0) := (blk_cell F12.out.hm 7).trans rfl; have mf7 := blk_frozen F12.out.hm 7; have mc8 : w12.cell? ⟨gm, 8, none⟩ = some (.bool false) := (blk_cell F12.out.hm 8).trans rfl; have mf8 := blk_frozen F12.out.hm 8; have mc9 : w12.cell? ⟨gm, 9, none⟩ = some (.slice none 0 0) := (blk_cell F12.out.hm 9).trans rfl; have mf9 := blk_frozen F12.out.hm 9; have mc10 : w12.cell? ⟨gm, 10, none⟩ = some (.slice none 0 0) := (blk_cell F12.out.hm 10).trans rfl; have mf10 := blk_frozen F12.out.hm 10
  go_wp2_with fail
  have FD := Aside0.mk ((((((F12.out.put 1 (.int .i64 ax) (cs' := #[.int .i64 kx, .int .i64 ax, .int .i64 0, .int .i64 0, .int .i64 0, .int .i64 0, .int .i64 0, .int .i64 0, .bool false, .slice none 0 0, .slice none 0 0]) rfl).put 2 (.int .i64 bx) (cs' := #[.int .i64 kx, .int .i64 ax, .int .i64 bx, .int .i64 0, .int .i64 0, .int .i64 0, .int .i64 0, .int .i64 0, .bool false, .slice none 0 0, .slice none 0 0]) rfl).put 3 (.int .i64 cx) (cs' := #[.int .i64 kx, .int .i64 ax, .int .i64 bx, .int .i64 cx, .int .i64 0, .int .i64 0, .int .i64 0, .int .i64 0, .bool false, .slice none 0 0, .slice none 0 0]) rfl).put 4 (.int .i64 dx) (cs' := #[.int .i64 kx, .int .i64 ax, .int .i64 bx, .int .i64 cx, .int .i64 dx, .int .i64 0, .int .i64 0, .int .i64 0, .bool false, .slice none 0 0, .slice none 0 0]) rfl).put 5 (.int .i64 fx) (cs' := #[.int .i64 kx, .int .i64 ax, .int .i64 bx, .int .i64 cx, .int .i64 dx, .int .i64 fx, .int .i64 0, .int .i64 0, .bool false, .slice none 0 0, .slice none 0 0]) rfl).put 6 (.int .i64 hx) (cs' := #[.int .i64 kx, .int .i64 ax, .int .i64 bx, .int .i64 cx, .int .i64 dx, .int .i64 fx, .int .i64 hx, .int .i64 0, .bool false, .slice none 0 0, .slice none 0 0]) rfl); have RD := Aside0.mk ((((((R12.out.set (gx := gm) (by have := F12.out.ne; omega) 1 (.int .i64 ax)).set (gx := gm) (by have := F12.out.ne; omega) 2 (.int .i64 bx)).set (gx := gm) (by have := F12.out.ne; omega) 3 (.int .i64 cx)).set (gx := gm) (by have := F12.out.ne; omega) 4 (.int .i64 dx)).set (gx := gm) (by have := F12.out.ne; omega) 5 (.int .i64 fx)).set (gx := gm) (by have := F12.out.ne; omega) 6 (.int .i64 hx))
  clear F12 R12 mc0 mf0 mc1 mf1 mc2 mf2 mc3 mf3 mc4 mf4 mc5 mf5 mc6 mf6 mc7 mf7 mc8 mf8 mc9 mf9 mc10 mf10
  generalize ((((((w12.setCell ⟨gm, 1, none⟩ (.int .i64 ax)).setCell ⟨gm, 2, none⟩ (.int .i64 bx)).setCell ⟨gm, 3, none⟩ (.int .i64 cx)).setCell ⟨gm, 4, none⟩ (.int .i64 dx)).setCell ⟨gm, 5, none⟩ (.int .i64 fx)).setCell ⟨gm, 6, none⟩ (.int .i64 hx)) = wd at FD RD ⊢
  refine start_ (n := 8) (S := fun w' => w'.cell? ⟨gp, 0, none⟩ = some (.pointer (some ⟨g, 0, none⟩))) (ds := [5, 7]) #[false, false, false, false, false, false, false, false] (by kernel_rfl) rfl rfl ((blk_cell (FD.out.drew).hp 0).trans rfl) (fun hHeld => ?_)
  refine take_ (i := 0) (N := some 48) (v := ?_) (a' := ?_) #[true, false, false, false, false, false, false, false] rfl rfl (by kernel_rfl) (fun _ _ _ h => h) (Or.inl ⟨by rfl, ?_⟩) hHeld ?_ ?_
  rotate_left
  · intro w' s0
    go_simp
    with_reducible rfl
  rotate_left
  · simp only [Act.put, List.setIfInBounds_toArray, List.set_cons_zero, List.set_cons_succ, i64_w, i32_w]
    rfl
  refine take_ (i := 2) (N := some 50) (v := ?_) (a' := ?_) #[true, false, true, false, false, false, false, false] rfl rfl (by kernel_rfl) (fun _ _ _ h => h) (Or.inl ⟨by rfl, ?_⟩) hHeld ?_ ?_
  rotate_left
  · intro w' s0
    go_simp
    with_reducible rfl
  rotate_left
  · simp only [Act.put, List.setIfInBounds_toArray, List.set_cons_zero, List.set_cons_succ, i64_w, i32_w]
    rfl
  refine one_ (i := 1) (N := some 49) #[true, true, true, false, false, false, false, false] rfl rfl (by kernel_rfl) (by decide) (fun K hK => ?_)
  refine goes_ Try.func34 (by kernel_rfl) rfl #[.pointer (some ⟨g, 0, none⟩)] (by rfl) rfl rfl (by simp only [List.map_toArray, List.map_cons, List.map_nil]; rfl) ?_
  with_reducible refine (rd_Num (w := wd.drew) RD.out.drew HAm.out).mono ?_
  rintro e w14 ⟨rfl, hR, hb, hk⟩
  refine ⟨_, rfl, ?_⟩
  have F14 := Aside0.mk (FD.out.drew.call hb hk)
  have R14 := Aside0.mk hR
  clear hR hb hk
  refine hK.out _ _ ((blk_cell (F14.out).hp 0).trans rfl) (fun hHeld => ?_)
  clear hK K
  refine norm_ (a' := ?_) ?_ ?_
  rotate_left
  · show Act.put _ (some 49) _ = _
    simp only [Act.put, List.setIfInBounds_toArray, List.set_cons_zero, List.set_cons_succ, i64_w, i32_w]
    rfl
  refine pure_ (i := 4) (N := some 52) (v := ?_) (a' := ?_) #[true, true, true, false, true, false, false, false] rfl rfl (by kernel_rfl) (fun _ _ _ h => h) (Or.inl ⟨by rfl, ?_⟩) ?_ ?_
  rotate_left
  · intro w'
    go_simp
    with_reducible rfl
  rotate_left
  · simp only [Act.put, List.setIfInBounds_toArray, List.set_cons_zero, List.set_cons_succ, i64_w, i32_w]
    rfl
  refine one_ (i := 3) (N := some 51) #[true, true, true, true, true, false, false, false] rfl rfl (by kernel_rfl) (by decide) (fun K hK => ?_)
  refine goes_ Try.func35 (by kernel_rfl) rfl #[.pointer (some ⟨g, 0, none⟩)] (by rfl) rfl rfl (by simp only [List.map_toArray, List.map_cons, List.map_nil]; rfl) ?_
  with_reducible refine (rd_Bool R14.out HYe.out).mono ?_
  rintro e w15 ⟨rfl, hR, hb, hk⟩
  refine ⟨_, rfl, ?_⟩
  have F15 := Aside0.mk (F14.out.call hb hk)
  have R15 := Aside0.mk hR
  clear hR hb hk
  have mc0 : w15.cell? ⟨gm, 0, none⟩ = some (.int .i64 kx) := (blk_cell F15.out.hm 0).trans rfl
  have mf0 := blk_frozen F15.out.hm 0
  have mc1 : w15.cell? ⟨gm, 1, none⟩ = some (.int .i64 ax) := (blk_cell F15.out.hm 1).trans rfl
  have mf1 := blk_frozen F15.out.hm 1
  have mc2 : w15.cell? ⟨gm, 2, none⟩ = some (.int .i64 bx) := (blk_cell F15.out.hm 2).trans rfl
  have mf2 := blk_frozen F15.out.hm 2
  have mc3 : w15.cell? ⟨gm, 3, none⟩ = some (.int .i64 cx) := (blk_cell F15.out.hm 3).trans rfl
  have mf3 := blk_frozen F15.out.hm 3
  have mc4 : w15.cell? ⟨gm, 4, none⟩ = some (.int .i64 dx) := (blk_cell F15.out.hm 4).trans rfl
  have mf4 := blk_frozen F15.out.hm 4
  have mc5 : w15.cell? ⟨gm, 5, none⟩ = some (.int .i64 fx) := (blk_cell F15.out.hm 5).trans rfl
  have mf5 := blk_frozen F15.out.hm 5
  have mc6 : w15.cell? ⟨gm, 6, none⟩ = some (.int .i64 hx) := (blk_cell F15.out.hm 6).trans rfl
  have mf6 := blk_frozen F15.out.hm 6
  have mc7 : w15.cell? ⟨gm, 7, none⟩ = some (.int .i64 0) := (blk_cell F15.out.hm 7).trans rfl
  have mf7 := blk_frozen F15.out.hm 7
  have mc8 : w15.cell? ⟨gm, 8, none⟩ = some (.bool false) := (blk_cell F15.out.hm 8).trans rfl
  have mf8 := blk_frozen F15.out.hm 8
  have mc9 : w15.cell? ⟨gm, 9, none⟩ = some (.slice none 0 0) := (blk_cell F15.out.hm 9).trans rfl
  have mf9 := blk_frozen F15.out.hm 9
  have mc10 : w15.cell? ⟨gm, 10, none⟩ = some (.slice none 0 0) := (blk_cell F15.out.hm 10).trans rfl
  have mf10 := blk_frozen F15.out.hm 10
  refine hK.out _ _ ((blk_cell (F15.out).hp 0).trans rfl) (fun hHeld => ?_)
  clear hK K
  refine norm_ (a' := ?_) ?_ ?_
  rotate_left
  · show Act.put _ (some 51) _ = _
    simp only [Act.put, List.setIfInBounds_toArray, List.set_cons_zero, List.set_cons_succ, i64_w, i32_w]
    rfl
  refine last_ (i := 5) (N := none) #[true, true, true, true, true, true, false, false] rfl rfl (by kernel_rfl) (by decide) (fun K hK => ?_)
  refine skip_ (w1 := ?_) (by rfl) rfl ?_ ?_
  rotate_left
  · go_simp
    rfl
  refine hK.out _ _ ?_
  clear hK K
  refine pure_ (i := 6) (N := some 53) (v := ?_) (a' := ?_) #[true, true, true, true, true, true, true, false] rfl rfl (by kernel_rfl) (fun _ _ _ h => h) (Or.inl ⟨by rfl, ?_⟩) ?_ ?_
  rotate_left
  · intro w'
    go_simp
    with_reducible rfl
  rotate_left
  · simp only [Act.put, List.setIfInBounds_toArray, List.set_cons_zero, List.set_cons_succ, i64_w, i32_w]
    rfl
  refine last_ (i := 7) (N := none) #[true, true, true, true, true, true, true, true] rfl rfl (by kernel_rfl) (by decide) (fun K hK => ?_)
  refine skip_ (w1 := ?_) (by rfl) rfl ?_ ?_
  rotate_left
  · go_simp
    rfl
  refine hK.out _ _ ?_
  clear hK K
  refine done_ (by kernel_rfl) ?_


  have F16 := Aside0.mk ((F15.out.put 7 (.int .i64 am) (cs' := #[.int .i64 kx, .int .i64 ax, .int .i64 bx, .int .i64 cx, .int .i64 dx, .int .i64 fx, .int .i64 hx, .int .i64 am, .bool false, .slice none 0 0, .slice none 0 0]) rfl).put 8 (.bool ye) (cs' := #[.int .i64 kx, .int .i64 ax, .int .i64 bx, .int .i64 cx, .int .i64 dx, .int .i64 fx, .int .i64 hx, .int .i64 am, .bool ye, .slice none 0 0, .slice none 0 0]) rfl); have R16 := Aside0.mk ((R15.out.set (gx := gm) (by have := F15.out.ne; omega) 7 (.int .i64 am)).set (gx := gm) (by have := F15.out.ne; omega) 8 (.bool ye))
  clear FD RD F14 R14 F15 R15 mc0 mf0 mc1 mf1 mc2 mf2 mc3 mf3 mc4 mf4 mc5 mf5 mc6 mf6 mc7 mf7 mc8 mf8 mc9 mf9 mc10 mf10
  generalize ((w15.setCell ⟨gm, 7, none⟩ (.int .i64 am)).setCell ⟨gm, 8, none⟩ (.bool ye)) = w16 at F16 R16 ⊢
  have pc0 : w16.cell? ⟨gp, 0, none⟩ = some (.pointer (some ⟨g, 0, none⟩)) := (blk_cell F16.out.hp 0).trans rfl
  go_wp2_with fail
  refine (rd_Int 0 1024 R16.out HF10.out).mono ?_; rintro x w17 ⟨rfl, hR, hb, hk⟩; have F17 := Aside0.mk (F16.out.call hb hk); have R17 := Aside0.mk hR; clear hR hb hk
  clear pc0
  go_wp2_with fail
  go_loopg [6] (cnt + 1) (fun kq v6 w' => ∃ (j pp : Nat) (ee : Int) (acc : List S50) (v8 : Value), v6 = .int .i64 (j : Int) ∧ Aside0 (j + 1 = kq ∧ pp ≤ l.length ∧ acc.length + j ≤ 1024) ∧ Aside0 (linesF l cnt (p10, e10) = (acc ++ (linesF l j (pp, ee)).1, (linesF l j (pp, ee)).2)) ∧ Aside0 (IsR 0 w' g l (pp : Int) ee) ∧ Aside0 (FM w w' g gp gr gm #[.int .i64 kx, .int .i64 ax, .int .i64 bx, .int .i64 cx, .int .i64 dx, .int .i64 fx, .int .i64 hx, .int .i64 am, .bool ye, v8, .slice none 0 0]) ∧ Aside0 (Kd.R k50 50 w' w.heap.size (fun k => w.heap.size ≤ k ∧ k ≠ gp ∧ k ≠ gr ∧ k ≠ gm) v8 acc))
  case atStart => exact ⟨cnt, p10, e10, [], .slice none 0 0, rfl, ⟨by omega, HP10.out, by have := HLN.out; simp only [List.length_nil]; omega⟩, ⟨by rw [List.nil_append]⟩, R17, F17, ⟨Kd.R_nil _ _ _ _ _⟩⟩
  case round =>
    obtain ⟨j, pp, ee, acc, v8, rfl, HJ8, HLS, R20, F20, O20⟩ := hrel
    obtain ⟨A8, c8, e8_⟩ := Kd.R_slice O20.out
    subst e8_
    clear F17 R17
    have pc0 : wr.cell? ⟨gp, 0, none⟩ = some (.pointer (some ⟨g, 0, none⟩)) := (blk_cell F20.out.hp 0).trans rfl
    by_cases hj : j = 0
    · subst hj
      have d1 : decide (((0 : Nat) : Int) > 0) = false := by decide
      have d2 : decide ((0 : Int) > 0) = false := by decide
      have HLE := Aside0.mk (show linesF l cnt (p10, e10) = (acc, pp, ee) by rw [HLS.out]; simp [linesF])
      go_wp2_with fail
      obtain ⟨nn, q1, f1, hqn, hpn, hrn, kN, hfn⟩ := rI_ok HL.out BB.out (e := ee) HJ8.out.2.1 8 (by decide)
      obtain ⟨nt, rfl⟩ : ∃ n : Nat, nn = (n : Int) := ⟨nn.toNat, by omega⟩
      have HQN := Aside0.mk hqn; have HPN := Aside0.mk hpn; have HRN := Aside0.mk (show nt ≤ 8 by omega); have HFN := Aside0.mk hfn
      clear hqn hpn hrn hfn
      refine (rd_Int 0 8 R20.out HFN.out).mono ?_; rintro x w30 ⟨rfl, hR, hb, hk⟩; have F30 := Aside0.mk (F20.out.call hb hk); have R30 := Aside0.mk hR; have O30_ := Aside0.mk (Kd.R_bound (Kd.R_keep O20.out hk (fun k q e => by have := q.1; have := G0.out; omega))); clear hR hb hk
      have O30 := Aside0.mk (Kd.R_mono (ok' := fun k => (w.heap.size ≤ k ∧ k ≠ gp ∧ k ≠ gr ∧ k ≠ gm) ∧ k < w30.heap.size) O30_.out (fun k hk => ⟨hk.1, hk.2.2.1⟩))
      have W30 := Aside0.mk F30.out.keep.1
      have LT30 := Aside0.mk (show gp < w30.heap.size ∧ gr < w30.heap.size ∧ gm < w30.heap.size from ⟨blk_lt F30.out.hp, blk_lt F30.out.hr, blk_lt F30.out.hm⟩)
      clear O30_ pc0
      go_wp2_with fail
      go_loopg [8] (nt + 1) (fun kq t8_ w' => ∃ (j pq : Nat) (eq : Int) (nc : List Int) (u9 : Value), t8_ = .int .i64 (j : Int) ∧ Aside0 (j + 1 = kq ∧ pq ≤ l.length ∧ nc.length + j ≤ 8) ∧ Aside0 (netsF l nt (q1, f1) = (nc ++ (netsF l j (pq, eq)).1, (netsF l j (pq, eq)).2)) ∧ Aside0 (IsR 0 w' g l (pq : Int) eq) ∧ Aside0 (FM w w' g gp gr gm #[.int .i64 kx, .int .i64 ax, .int .i64 bx, .int .i64 cx, .int .i64 dx, .int .i64 fx, .int .i64 hx, .int .i64 am, .bool ye, .slice A8 acc.length c8, u9]) ∧ Aside0 (Kd.R k50 50 w' w.heap.size (fun k => (w.heap.size ≤ k ∧ k ≠ gp ∧ k ≠ gr ∧ k ≠ gm) ∧ k < w30.heap.size) (.slice A8 acc.length c8) acc) ∧ Aside0 (Kd.R (Kd.int .i64) 2 w' w.heap.size (fun k => w30.heap.size ≤ k) u9 nc) ∧ Aside0 (w30.heap.size ≤ w'.heap.size))
      case atStart => exact ⟨nt, q1, f1, [], .slice none 0 0, rfl, ⟨by omega, HPN.out, by have := HRN.out; simp only [List.length_nil]; omega⟩, ⟨by rw [List.nil_append]⟩, R30, F30, O30, ⟨Kd.R_nil _ _ _ _ _⟩, ⟨Nat.le_refl _⟩⟩
      case round =>
        obtain ⟨j2, pq, eq, nc, u9, rfl, HJ, HNS, R40, F40, O40, Q40, S40⟩ := hrel
        obtain ⟨A9, c9, e9_⟩ := Kd.R_slice Q40.out
        subst e9_
        clear F30 R30 O30
        have pc0 : wr.cell? ⟨gp, 0, none⟩ = some (.pointer (some ⟨g, 0, none⟩)) := (blk_cell F40.out.hp 0).trans rfl
        by_cases hj2 : j2 = 0
        · subst hj2
          have y1 : decide (((0 : Nat) : Int) > 0) = false := by decide
          have y2 : decide ((0 : Int) > 0) = false := by decide
          have HNE := Aside0.mk (show netsF l nt (q1, f1) = (nc, pq, eq) by rw [HNS.out]; simp [netsF])
          go_wp2_with fail
          refine (rd_Err R40.out (show code_Reader_Err.f l (pq : Int) eq = some (eq, (pq : Int), eq) from rfl)).mono ?_; rintro x w50 ⟨rfl, hR, hb, hk⟩; have F50 := Aside0.mk (F40.out.call hb hk); have R50 := Aside0.mk hR; have O50 := Aside0.mk (Kd.R_keep O40.out hk (fun k q e => by have := q.1.1; have := G0.out; omega)); have Q50 := Aside0.mk (Kd.R_keep Q40.out hk (fun k q e => by have := W30.out; have := G0.out; omega)); clear hR hb hk
          clear pc0
          by_cases hz : eq = 0
          · have z1 : (eq != 0) = false := bne_eq_false_iff_eq.mpr hz
            have HFR := Aside0.mk (show fromF l (p0, e0) = (⟨kx, ⟨ax, bx⟩, cx, dx, fx, hx, am, ye, acc, nc⟩, 0, pq, eq) by unfold fromF; simp only [HQ1.out, HQ2.out, HQ3.out, HQ4.out, HQ5.out, HQ6.out, HQ7.out, HQ8.out, HQ9.out, HQ10.out, Int.toNat_natCast, HLE.out, HQN.out, HNE.out]; rw [if_neg HOK.out, if_pos hz])
            clear hz
            have mc0 : w50.cell? ⟨gm, 0, none⟩ = some (.int .i64 kx) := (blk_cell F50.out.hm 0).trans rfl; have mf0 := blk_frozen F50.out.hm 0; have mc1 : w50.cell? ⟨gm, 1, none⟩ = some (.int .i64 ax) := (blk_cell F50.out.hm 1).trans rfl; have mf1 := blk_frozen F50.out.hm 1; have mc2 : w50.cell? ⟨gm, 2, none⟩ = some (.int .i64 bx) := (blk_cell F50.out.hm 2).trans rfl; have mf2 := blk_frozen F50.out.hm 2; have mc3 : w50.cell? ⟨gm, 3, none⟩ = some (.int .i64 cx) := (blk_cell F50.out.hm 3).trans rfl; have mf3 := blk_frozen F50.out.hm 3; have mc4 : w50.cell? ⟨gm, 4, none⟩ = some (.int .i64 dx) := (blk_cell F50.out.hm 4).trans rfl; have mf4 := blk_frozen F50.out.hm 4; have mc5 : w50.cell? ⟨gm, 5, none⟩ = some (.int .i64 fx) := (blk_cell F50.out.hm 5).trans rfl; have mf5 := blk_frozen F50.out.hm 5; have mc6 : w50.cell? ⟨gm, 6, none⟩ = some (.int .i64 hx) := (blk_cell F50.out.hm 6).trans rfl; have mf6 := blk_frozen F50.out.hm 6; have mc7 : w50.cell? ⟨gm, 7, none⟩ = some (.int .i64 am) := (blk_cell F50.out.hm 7).trans rfl; have mf7 := blk_frozen F50.out.hm 7; have mc8 : w50.cell? ⟨gm, 8, none⟩ = some (.bool ye) := (blk_cell F50.out.hm 8).trans rfl; have mf8 := blk_frozen F50.out.hm 8; have mc9 : w50.cell? ⟨gm, 9, none⟩ = some (.slice A8 acc.length c8) := (blk_cell F50.out.hm 9).trans rfl; have mf9 := blk_frozen F50.out.hm 9; have mc10 : w50.cell? ⟨gm, 10, none⟩ = some (.slice A9 nc.length c9) := (blk_cell F50.out.hm 10).trans rfl; have mf10 := blk_frozen F50.out.hm 10
            have rc0 : w50.cell? ⟨gr, 0, none⟩ = some (.int .i64 0) := (blk_cell F50.out.hr 0).trans rfl; have rf0 := blk_frozen F50.out.hr 0; have rc1 : w50.cell? ⟨gr, 1, none⟩ = some (.int .i64 0) := (blk_cell F50.out.hr 1).trans rfl; have rf1 := blk_frozen F50.out.hr 1; have rc2 : w50.cell? ⟨gr, 2, none⟩ = some (.int .i64 0) := (blk_cell F50.out.hr 2).trans rfl; have rf2 := blk_frozen F50.out.hr 2; have rc3 : w50.cell? ⟨gr, 3, none⟩ = some (.int .i64 0) := (blk_cell F50.out.hr 3).trans rfl; have rf3 := blk_frozen F50.out.hr 3; have rc4 : w50.cell? ⟨gr, 4, none⟩ = some (.int .i64 0) := (blk_cell F50.out.hr 4).trans rfl; have rf4 := blk_frozen F50.out.hr 4; have rc5 : w50.cell? ⟨gr, 5, none⟩ = some (.int .i64 0) := (blk_cell F50.out.hr 5).trans rfl; have rf5 := blk_frozen F50.out.hr 5; have rc6 : w50.cell? ⟨gr, 6, none⟩ = some (.int .i64 0) := (blk_cell F50.out.hr 6).trans rfl; have rf6 := blk_frozen F50.out.hr 6; have rc7 : w50.cell? ⟨gr, 7, none⟩ = some (.int .i64 0) := (blk_cell F50.out.hr 7).trans rfl; have rf7 := blk_frozen F50.out.hr 7; have rc8 : w50.cell? ⟨gr, 8, none⟩ = some (.bool false) := (blk_cell F50.out.hr 8).trans rfl; have rf8 := blk_frozen F50.out.hr 8; have rc9 : w50.cell? ⟨gr, 9, none⟩ = some (.slice none 0 0) := (blk_cell F50.out.hr 9).trans rfl; have rf9 := blk_frozen F50.out.hr 9; have rc10 : w50.cell? ⟨gr, 10, none⟩ = some (.slice none 0 0) := (blk_cell F50.out.hr 10).trans rfl; have rf10 := blk_frozen F50.out.hr 10
            go_wp2_with fail
            refine bodyPost_ret (results_ct rfl _ _ gr 28 #[.int .i64 kx, .int .i64 ax, .int .i64 bx, .int .i64 cx, .int .i64 dx, .int .i64 fx, .int .i64 hx, .int .i64 am, .bool ye, .slice A8 acc.length c8, .slice A9 nc.length c9] (0, 0) _ rfl (set11_blk F50.out.hr (.int .i64 kx) (.int .i64 ax) (.int .i64 bx) (.int .i64 cx) (.int .i64 dx) (.int .i64 fx) (.int .i64 hx) (.int .i64 am) (.bool ye) (.slice A8 acc.length c8) (.slice A9 nc.length c9)) Try.underlying28 rfl (by kernel_rfl)) rfl ?_
            rw [HFR.out]
            exact ⟨set11_far (g := gr) F50.out.keep (by have := F50.out.ne; omega) (.int .i64 kx) (.int .i64 ax) (.int .i64 bx) (.int .i64 cx) (.int .i64 dx) (.int .i64 fx) (.int .i64 hx) (.int .i64 am) (.bool ye) (.slice A8 acc.length c8) (.slice A9 nc.length c9), set11_below (g := gr) F50.out.bel (by have := F50.out.ne; omega) (.int .i64 kx) (.int .i64 ax) (.int .i64 bx) (.int .i64 cx) (.int .i64 dx) (.int .i64 fx) (.int .i64 hx) (.int .i64 am) (.bool ye) (.slice A8 acc.length c8) (.slice A9 nc.length c9), R50.out.kept (set11_kept w50 gr (.int .i64 kx) (.int .i64 ax) (.int .i64 bx) (.int .i64 cx) (.int .i64 dx) (.int .i64 fx) (.int .i64 hx) (.int .i64 am) (.bool ye) (.slice A8 acc.length c8) (.slice A9 nc.length c9)) (fun k hk => by subst hk; have := F50.out.ne; exact ⟨by omega, .inl (by omega)⟩), _, _, rfl, Kd.R_mono (Kd.R_kept O50.out (set11_kept w50 gr (.int .i64 kx) (.int .i64 ax) (.int .i64 bx) (.int .i64 cx) (.int .i64 dx) (.int .i64 fx) (.int .i64 hx) (.int .i64 am) (.bool ye) (.slice A8 acc.length c8) (.slice A9 nc.length c9)) (fun k hk e => hk.1.2.2.1 e)) (fun _ _ => trivial), Kd.R_mono (Kd.R_kept Q50.out (set11_kept w50 gr (.int .i64 kx) (.int .i64 ax) (.int .i64 bx) (.int .i64 cx) (.int .i64 dx) (.int .i64 fx) (.int .i64 hx) (.int .i64 am) (.bool ye) (.slice A8 acc.length c8) (.slice A9 nc.length c9)) (fun k hk e => by subst e; exact absurd LT30.out.2.1 (Nat.not_lt.mpr hk))) (fun k hk e => absurd (O50.out.1 k e.symm).2 (Nat.not_lt.mpr hk))⟩
          have z1 : (eq != 0) = true := bne_iff_ne.mpr hz
          have HFR := Aside0.mk (show fromF l (p0, e0) = (z28, eq, pq, eq) by unfold fromF; simp only [HQ1.out, HQ2.out, HQ3.out, HQ4.out, HQ5.out, HQ6.out, HQ7.out, HQ8.out, HQ9.out, HQ10.out, Int.toNat_natCast, HLE.out, HQN.out, HNE.out]; rw [if_neg HOK.out, if_neg hz])
          clear hz
          have rc0 : w50.cell? ⟨gr, 0, none⟩ = some (.int .i64 0) := (blk_cell F50.out.hr 0).trans rfl; have rf0 := blk_frozen F50.out.hr 0; have rc1 : w50.cell? ⟨gr, 1, none⟩ = some (.int .i64 0) := (blk_cell F50.out.hr 1).trans rfl; have rf1 := blk_frozen F50.out.hr 1; have rc2 : w50.cell? ⟨gr, 2, none⟩ = some (.int .i64 0) := (blk_cell F50.out.hr 2).trans rfl; have rf2 := blk_frozen F50.out.hr 2; have rc3 : w50.cell? ⟨gr, 3, none⟩ = some (.int .i64 0) := (blk_cell F50.out.hr 3).trans rfl; have rf3 := blk_frozen F50.out.hr 3; have rc4 : w50.cell? ⟨gr, 4, none⟩ = some (.int .i64 0) := (blk_cell F50.out.hr 4).trans rfl; have rf4 := blk_frozen F50.out.hr 4; have rc5 : w50.cell? ⟨gr, 5, none⟩ = some (.int .i64 0) := (blk_cell F50.out.hr 5).trans rfl; have rf5 := blk_frozen F50.out.hr 5; have rc6 : w50.cell? ⟨gr, 6, none⟩ = some (.int .i64 0) := (blk_cell F50.out.hr 6).trans rfl; have rf6 := blk_frozen F50.out.hr 6; have rc7 : w50.cell? ⟨gr, 7, none⟩ = some (.int .i64 0) := (blk_cell F50.out.hr 7).trans rfl; have rf7 := blk_frozen F50.out.hr 7; have rc8 : w50.cell? ⟨gr, 8, none⟩ = some (.bool false) := (blk_cell F50.out.hr 8).trans rfl; have rf8 := blk_frozen F50.out.hr 8; have rc9 : w50.cell? ⟨gr, 9, none⟩ = some (.slice none 0 0) := (blk_cell F50.out.hr 9).trans rfl; have rf9 := blk_frozen F50.out.hr 9; have rc10 : w50.cell? ⟨gr, 10, none⟩ = some (.slice none 0 0) := (blk_cell F50.out.hr 10).trans rfl; have rf10 := blk_frozen F50.out.hr 10
          go_wp2_with fail
          refine bodyPost_ret (results_ct rfl _ _ gr 28 #[.int .i64 0, .int .i64 0, .int .i64 0, .int .i64 0, .int .i64 0, .int .i64 0, .int .i64 0, .int .i64 0, .bool false, .slice none 0 0, .slice none 0 0] (0, 0) _ rfl (set11_blk F50.out.hr (.int .i64 0) (.int .i64 0) (.int .i64 0) (.int .i64 0) (.int .i64 0) (.int .i64 0) (.int .i64 0) (.int .i64 0) (.bool false) (.slice none 0 0) (.slice none 0 0)) Try.underlying28 rfl (by kernel_rfl)) rfl ?_
          rw [HFR.out]
          refine ⟨set11_far (g := gr) F50.out.keep (by have := F50.out.ne; omega) (.int .i64 0) (.int .i64 0) (.int .i64 0) (.int .i64 0) (.int .i64 0) (.int .i64 0) (.int .i64 0) (.int .i64 0) (.bool false) (.slice none 0 0) (.slice none 0 0), set11_below (g := gr) F50.out.bel (by have := F50.out.ne; omega) (.int .i64 0) (.int .i64 0) (.int .i64 0) (.int .i64 0) (.int .i64 0) (.int .i64 0) (.int .i64 0) (.int .i64 0) (.bool false) (.slice none 0 0) (.slice none 0 0), R50.out.kept (set11_kept w50 gr (.int .i64 0) (.int .i64 0) (.int .i64 0) (.int .i64 0) (.int .i64 0) (.int .i64 0) (.int .i64 0) (.int .i64 0) (.bool false) (.slice none 0 0) (.slice none 0 0)) (fun k hk => by subst hk; have := F50.out.ne; exact ⟨by omega, .inl (by omega)⟩), .slice none 0 0, .slice none 0 0, rfl, Kd.R_nil _ _ _ _ _, Kd.R_nil _ _ _ _ _⟩
        have y1 : decide ((j2 : Int) > 0) = true := decide_eq_true (by omega)
        have y2 : decide (0 < (j2 : Int)) = true := decide_eq_true (by omega)
        have y3 : decide (0 < j2) = true := decide_eq_true (by omega)
        have y4 := eq_true (show 0 < j2 by omega)
        by_cases hq : eq = 0
        · have y5 : (eq == 0) = true := beq_iff_eq.mpr hq
          obtain ⟨i2, rfl⟩ : ∃ i, j2 = i + 1 := ⟨j2 - 1, by omega⟩
          obtain ⟨nx, pn, en, hqx, hpx, kx5, hfx⟩ := rN_ok HL.out BB.out (e := eq) HJ.out.2.1
          have hstep : netsF l (i2 + 1) (pq, eq) = (nx :: (netsF l i2 (pn, en)).1, (netsF l i2 (pn, en)).2) := by
            simp only [netsF, hq, if_true]
            rw [hq] at hqx
            simp only [hqx]
          have HNX := Aside0.mk (show netsF l nt (q1, f1) = ((nc ++ [nx]) ++ (netsF l i2 (pn, en)).1, (netsF l i2 (pn, en)).2) by rw [HNS.out, hstep]; simp)
          have HA5 := Aside0.mk hfx; have HPX := Aside0.mk hpx
          have b2 : wrap64 (((i2 + 1 : Nat) : Int) - 1) = (i2 : Int) := by have := HJ.out; unfold wrap64; omega
          have b3 : wrap64 ((i2 : Int) + 1 - 1) = (i2 : Int) := by have := HJ.out; unfold wrap64; omega
          have b4 : wrap64 (i2 : Int) = (i2 : Int) := by have := HJ.out; unfold wrap64; omega
          have y6 : decide ((i2 : Int) + 1 > 0) = true := decide_eq_true (by omega)
          have y7 : decide (0 < (i2 : Int) + 1) = true := decide_eq_true (by omega)
          clear hq hj2 hqx hpx hfx hstep
          go_wp2_with fail
          refine (rd_Err R40.out (show code_Reader_Err.f l (pq : Int) eq = some (eq, (pq : Int), eq) from rfl)).mono ?_; rintro x w41 ⟨rfl, hR, hb, hk⟩; have F41 := Aside0.mk (F40.out.call hb hk); have R41 := Aside0.mk hR; have O41 := Aside0.mk (Kd.R_keep O40.out hk (fun k q e => by have := q.1.1; have := G0.out; omega)); have Q41 := Aside0.mk (Kd.R_keep Q40.out hk (fun k q e => by have := W30.out; have := G0.out; omega)); have S41 := Aside0.mk (Nat.le_trans S40.out hk.1); clear hR hb hk
          clear pc0
          go_wp2_with fail
          refine start_ (n := 8) (S := fun w' => w'.cell? ⟨gp, 0, none⟩ = some (.pointer (some ⟨g, 0, none⟩)) ∧ w'.cell? ⟨gm, 10, none⟩ = some (.slice A9 nc.length c9)) (ds := [7]) #[false, false, false, false, false, false, false, false] (by kernel_rfl) rfl rfl ⟨(blk_cell (F41.out.drew).hp 0).trans rfl, (blk_cell (F41.out.drew).hm 10).trans rfl⟩ (fun hHeld => ?_)
          refine pure_ (i := 0) (N := some 96) (v := ?_) (a' := ?_) #[true, false, false, false, false, false, false, false] rfl rfl (by kernel_rfl) (fun _ _ _ h => h) (Or.inl ⟨by rfl, ?_⟩) ?_ ?_
          rotate_left
          · intro w'
            go_simp
            with_reducible rfl
          rotate_left
          · simp only [Act.put, List.setIfInBounds_toArray, List.set_cons_zero, List.set_cons_succ, i64_w, i32_w]
            rfl
          refine take_ (i := 1) (N := some 97) (v := ?_) (a' := ?_) #[true, true, false, false, false, false, false, false] rfl rfl (by kernel_rfl) (fun _ _ _ h => h) (Or.inl ⟨by rfl, ?_⟩) hHeld ?_ ?_
          rotate_left
          · rintro w' ⟨s0, s1⟩
            go_simp
            with_reducible rfl
          rotate_left
          · simp only [Act.put, List.setIfInBounds_toArray, List.set_cons_zero, List.set_cons_succ, i64_w, i32_w]
            rfl
          refine take_ (i := 2) (N := some 98) (v := ?_) (a' := ?_) #[true, true, true, false, false, false, false, false] rfl rfl (by kernel_rfl) (fun _ _ _ h => h) (Or.inl ⟨by rfl, ?_⟩) hHeld ?_ ?_
          rotate_left
          · rintro w' ⟨s0, s1⟩
            go_simp
            with_reducible rfl
          rotate_left
          · simp only [Act.put, List.setIfInBounds_toArray, List.set_cons_zero, List.set_cons_succ, i64_w, i32_w]
            rfl
          refine one_ (i := 3) (N := some 99) #[true, true, true, true, false, false, false, false] rfl rfl (by kernel_rfl) (by decide) (fun K hK => ?_)
          refine goes_ Try.func34 (by kernel_rfl) rfl #[.pointer (some ⟨g, 0, none⟩)] (by rfl) rfl rfl (by simp only [List.map_toArray, List.map_cons, List.map_nil]; rfl) ?_
          with_reducible refine (rd_Num (w := w41.drew) R41.out.drew HA5.out).mono ?_
          rintro e w42 ⟨rfl, hR, hb, hk⟩
          refine ⟨_, rfl, ?_⟩
          have F42 := Aside0.mk (F41.out.drew.call hb hk)
          have R42 := Aside0.mk hR
          have O42 := Aside0.mk (Kd.R_keep (Kd.R_drew O41.out) hk (fun k q e => by have := q.1.1; have := G0.out; omega))
          have Q42 := Aside0.mk (Kd.R_keep (Kd.R_drew Q41.out) hk (fun k q e => by have := W30.out; have := G0.out; omega))
          have S42 := Aside0.mk (Nat.le_trans S41.out hk.1)
          clear hR hb hk
          refine hK.out _ _ ⟨(blk_cell (F42.out).hp 0).trans rfl, (blk_cell (F42.out).hm 10).trans rfl⟩ (fun hHeld => ?_)
          clear hK K
          refine norm_ (a' := ?_) ?_ ?_
          rotate_left
          · show Act.put _ (some 99) _ = _
            simp only [Act.put, List.setIfInBounds_toArray, List.set_cons_zero, List.set_cons_succ, i64_w, i32_w]
            rfl
          refine one_ (i := 4) (N := some 100) #[true, true, true, true, true, false, false, false] rfl rfl (by kernel_rfl) (by decide) (fun K hK => ?_)
          refine Kd.R_lit_step (Kd.int .i64) (w0 := w42) w42.heap.size 2 (by rfl) (N := 100) ?hd (xs := [nx]) (inner := [.int .i64 nx]) (ok := fun _ => True) (okp := fun _ => True) ?hr ?hp (fun _ hk => hk) trivial (Below.refl _ _) (Nat.le_refl _) (by simp) ?_
          (case hd => rfl)
          (case hr => first | (go_simp; done) | (go_simp; rfl))
          (case hp => exact (Reps.one (show Kd.M (Kd.int .i64) _ _ _ nx [.int .i64 nx] from rfl) (Reps.none _ _)))
          intro vL w43 hoL hb hg_ hnew_
          obtain ⟨AL, cL, eL, hcL, hrL⟩ := Kd.R_reads hoL
          subst eL
          have RL := Aside0.mk hrL
          have F43 := Aside0.mk (F42.out.below hb)
          have R43 := Aside0.mk (R42.out.below hb)
          have O43 := Aside0.mk (Kd.R_below O42.out hb)
          have Q43 := Aside0.mk (Kd.R_below Q42.out hb)
          have S43 := Aside0.mk (Nat.le_trans S42.out hb.size)
          clear hoL hb hg_ hnew_ hcL hrL
          refine hK.out _ _ ⟨(blk_cell (F43.out).hp 0).trans rfl, (blk_cell (F43.out).hm 10).trans rfl⟩ (fun hHeld => ?_)
          clear hK K
          refine norm_ (a' := ?_) ?_ ?_
          rotate_left
          · show Act.put _ (some 100) _ = _
            simp only [Act.put, List.setIfInBounds_toArray, List.set_cons_zero, List.set_cons_succ, i64_w, i32_w]
            rfl
          refine one_ (i := 5) (N := some 101) #[true, true, true, true, true, true, false, false] rfl rfl (by kernel_rfl) (by decide) (fun K hK => ?_)
          refine Kd.R_append_rows_step (Kd.int .i64) (w0 := w43) w.heap.size (by rfl) (.tmp 97) (.tmp 100) 26 2 (.int .i64 0) 8 rfl Try.underlying26 info2 rfl (by decide) (by omega) (.slice A9 nc.length c9) nc [nx] _ _ _ (fun k => w30.heap.size ≤ k) (fun _ => False) rfl rfl ?aO ?aR (fun _ _ h => h) (fun _ h => h.elim) ?aF ?aB ?aS ?aL ?_
          (case aR => exact RL.out)
          (case aB => exact Below.refl _ _)
          (case aF => exact (fun k hk => Nat.le_trans S43.out hk))
          (case aO => exact Q43.out)
          (case aS => exact Nat.le_trans W30.out S43.out)
          (case aL => have := HJ.out; simp only [List.length_singleton]; omega)
          intro v44 w44 ho hb hg hat
          obtain ⟨A44, c44, e44⟩ := Kd.R_slice ho
          subst e44
          rw [List.length_append, List.length_singleton] at ho
          have Q44 := Aside0.mk ho
          have hne := (fun k (e : some k = (Value.slice A9 nc.length c9).ownBlock) => Q43.out.1 k e.symm)
          have F44 := Aside0.mk (F43.out.grown hb hg (fun e => Nat.not_lt.mpr (hne _ e) LT30.out.1) (fun e => Nat.not_lt.mpr (hne _ e) LT30.out.2.1) (fun e => Nat.not_lt.mpr (hne _ e) LT30.out.2.2))
          have R44 := Aside0.mk (R43.out.grown hb G0.out)
          have O44 := Aside0.mk (Kd.R_grown O43.out hg (fun k hk e => Nat.not_lt.mpr (hne _ e) hk.2))
          have S44 := Aside0.mk (Nat.le_trans S43.out hg.size)
          clear ho hb hg hat hne
          have mc0 : w44.cell? ⟨gm, 0, none⟩ = some (.int .i64 kx) := (blk_cell F44.out.hm 0).trans rfl
          have mf0 := blk_frozen F44.out.hm 0
          have mc1 : w44.cell? ⟨gm, 1, none⟩ = some (.int .i64 ax) := (blk_cell F44.out.hm 1).trans rfl
          have mf1 := blk_frozen F44.out.hm 1
          have mc2 : w44.cell? ⟨gm, 2, none⟩ = some (.int .i64 bx) := (blk_cell F44.out.hm 2).trans rfl
          have mf2 := blk_frozen F44.out.hm 2
          have mc3 : w44.cell? ⟨gm, 3, none⟩ = some (.int .i64 cx) := (blk_cell F44.out.hm 3).trans rfl
          have mf3 := blk_frozen F44.out.hm 3
          have mc4 : w44.cell? ⟨gm, 4, none⟩ = some (.int .i64 dx) := (blk_cell F44.out.hm 4).trans rfl
          have mf4 := blk_frozen F44.out.hm 4
          have mc5 : w44.cell? ⟨gm, 5, none⟩ = some (.int .i64 fx) := (blk_cell F44.out.hm 5).trans rfl
          have mf5 := blk_frozen F44.out.hm 5
          have mc6 : w44.cell? ⟨gm, 6, none⟩ = some (.int .i64 hx) := (blk_cell F44.out.hm 6).trans rfl
          have mf6 := blk_frozen F44.out.hm 6
          have mc7 : w44.cell? ⟨gm, 7, none⟩ = some (.int .i64 am) := (blk_cell F44.out.hm 7).trans rfl
          have mf7 := blk_frozen F44.out.hm 7
          have mc8 : w44.cell? ⟨gm, 8, none⟩ = some (.bool ye) := (blk_cell F44.out.hm 8).trans rfl
          have mf8 := blk_frozen F44.out.hm 8
          have mc9 : w44.cell? ⟨gm, 9, none⟩ = some (.slice A8 acc.length c8) := (blk_cell F44.out.hm 9).trans rfl
          have mf9 := blk_frozen F44.out.hm 9
          have mc10 : w44.cell? ⟨gm, 10, none⟩ = some (.slice A9 nc.length c9) := (blk_cell F44.out.hm 10).trans rfl
          have mf10 := blk_frozen F44.out.hm 10
          refine hK.out _ _ ⟨(blk_cell (F44.out).hp 0).trans rfl, (blk_cell (F44.out).hm 10).trans rfl⟩ (fun hHeld => ?_)
          clear hK K
          refine norm_ (a' := ?_) ?_ ?_
          rotate_left
          · show Act.put _ (some 101) _ = _
            simp only [Act.put, List.setIfInBounds_toArray, List.set_cons_zero, List.set_cons_succ, i64_w, i32_w]
            rfl
          refine pure_ (i := 6) (N := some 102) (v := ?_) (a' := ?_) #[true, true, true, true, true, true, true, false] rfl rfl (by kernel_rfl) (fun _ _ _ h => h) (Or.inl ⟨by rfl, ?_⟩) ?_ ?_
          rotate_left
          · intro w'
            go_simp
            with_reducible rfl
          rotate_left
          · simp only [Act.put, List.setIfInBounds_toArray, List.set_cons_zero, List.set_cons_succ, i64_w, i32_w]
            rfl
          refine last_ (i := 7) (N := none) #[true, true, true, true, true, true, true, true] rfl rfl (by kernel_rfl) (by decide) (fun K hK => ?_)
          refine skip_ (w1 := ?_) (by rfl) rfl ?_ ?_
          rotate_left
          · go_simp
            rfl
          refine hK.out _ _ ?_
          clear hK K
          refine done_ (by kernel_rfl) ?_


          go_wp2_with fail
          go_roundg (gk - 1)
          case measure => have := HJ.out; omega
          case rel => exact ⟨i2, pn, en, nc ++ [nx], _, (by first | rw [b2] | rw [b3] | rw [b4] | rfl), ⟨by have := HJ.out; omega, HPX.out, by have := HJ.out; simp only [List.length_append, List.length_singleton]; omega⟩, HNX, ⟨R44.out.set (gx := gm) (by have := F44.out.ne; omega) 10 _⟩, ⟨F44.out.put 10 _ rfl⟩, ⟨Kd.R_kept O44.out ((Kept.refl w44 (fun k => k = gm)).setCell (p := ⟨gm, 10, none⟩) (.inl rfl) _) (fun k hk e => hk.1.2.2.2 e)⟩, ⟨Kd.R_kept Q44.out ((Kept.refl w44 (fun k => k = gm)).setCell (p := ⟨gm, 10, none⟩) (.inl rfl) _) (fun k hk e => by subst e; exact absurd LT30.out.2.2 (Nat.not_lt.mpr hk))⟩, ⟨by simpa [World.setCell] using S44.out⟩⟩
        have y5 : (eq == 0) = false := beq_eq_false_iff_ne.mpr hq
        have HNE := Aside0.mk (show netsF l nt (q1, f1) = (nc, pq, eq) by rw [HNS.out]; obtain ⟨i, rfl⟩ : ∃ i, j2 = i + 1 := ⟨j2 - 1, by omega⟩; simp [netsF, hq])
        clear hq hj2
        go_wp2_with fail
        refine (rd_Err R40.out (show code_Reader_Err.f l (pq : Int) eq = some (eq, (pq : Int), eq) from rfl)).mono ?_; rintro x w41 ⟨rfl, hR, hb, hk⟩; have F41 := Aside0.mk (F40.out.call hb hk); have R41 := Aside0.mk hR; have O41 := Aside0.mk (Kd.R_keep O40.out hk (fun k q e => by have := q.1.1; have := G0.out; omega)); have Q41 := Aside0.mk (Kd.R_keep Q40.out hk (fun k q e => by have := W30.out; have := G0.out; omega)); clear hR hb hk
        clear pc0
        have pc0 : w41.cell? ⟨gp, 0, none⟩ = some (.pointer (some ⟨g, 0, none⟩)) := (blk_cell F41.out.hp 0).trans rfl
        go_wp2_with fail
        refine (rd_Err R41.out (show code_Reader_Err.f l (pq : Int) eq = some (eq, (pq : Int), eq) from rfl)).mono ?_; rintro x w50 ⟨rfl, hR, hb, hk⟩; have F50 := Aside0.mk (F41.out.call hb hk); have R50 := Aside0.mk hR; have O50 := Aside0.mk (Kd.R_keep O41.out hk (fun k q e => by have := q.1.1; have := G0.out; omega)); have Q50 := Aside0.mk (Kd.R_keep Q41.out hk (fun k q e => by have := W30.out; have := G0.out; omega)); clear hR hb hk
        clear pc0
        by_cases hz : eq = 0
        · have z1 : (eq != 0) = false := bne_eq_false_iff_eq.mpr hz
          have HFR := Aside0.mk (show fromF l (p0, e0) = (⟨kx, ⟨ax, bx⟩, cx, dx, fx, hx, am, ye, acc, nc⟩, 0, pq, eq) by unfold fromF; simp only [HQ1.out, HQ2.out, HQ3.out, HQ4.out, HQ5.out, HQ6.out, HQ7.out, HQ8.out, HQ9.out, HQ10.out, Int.toNat_natCast, HLE.out, HQN.out, HNE.out]; rw [if_neg HOK.out, if_pos hz])
          clear hz
          have mc0 : w50.cell? ⟨gm, 0, none⟩ = some (.int .i64 kx) := (blk_cell F50.out.hm 0).trans rfl; have mf0 := blk_frozen F50.out.hm 0; have mc1 : w50.cell? ⟨gm, 1, none⟩ = some (.int .i64 ax) := (blk_cell F50.out.hm 1).trans rfl; have mf1 := blk_frozen F50.out.hm 1; have mc2 : w50.cell? ⟨gm, 2, none⟩ = some (.int .i64 bx) := (blk_cell F50.out.hm 2).trans rfl; have mf2 := blk_frozen F50.out.hm 2; have mc3 : w50.cell? ⟨gm, 3, none⟩ = some (.int .i64 cx) := (blk_cell F50.out.hm 3).trans rfl; have mf3 := blk_frozen F50.out.hm 3; have mc4 : w50.cell? ⟨gm, 4, none⟩ = some (.int .i64 dx) := (blk_cell F50.out.hm 4).trans rfl; have mf4 := blk_frozen F50.out.hm 4; have mc5 : w50.cell? ⟨gm, 5, none⟩ = some (.int .i64 fx) := (blk_cell F50.out.hm 5).trans rfl; have mf5 := blk_frozen F50.out.hm 5; have mc6 : w50.cell? ⟨gm, 6, none⟩ = some (.int .i64 hx) := (blk_cell F50.out.hm 6).trans rfl; have mf6 := blk_frozen F50.out.hm 6; have mc7 : w50.cell? ⟨gm, 7, none⟩ = some (.int .i64 am) := (blk_cell F50.out.hm 7).trans rfl; have mf7 := blk_frozen F50.out.hm 7; have mc8 : w50.cell? ⟨gm, 8, none⟩ = some (.bool ye) := (blk_cell F50.out.hm 8).trans rfl; have mf8 := blk_frozen F50.out.hm 8; have mc9 : w50.cell? ⟨gm, 9, none⟩ = some (.slice A8 acc.length c8) := (blk_cell F50.out.hm 9).trans rfl; have mf9 := blk_frozen F50.out.hm 9; have mc10 : w50.cell? ⟨gm, 10, none⟩ = some (.slice A9 nc.length c9) := (blk_cell F50.out.hm 10).trans rfl; have mf10 := blk_frozen F50.out.hm 10
          have rc0 : w50.cell? ⟨gr, 0, none⟩ = some (.int .i64 0) := (blk_cell F50.out.hr 0).trans rfl; have rf0 := blk_frozen F50.out.hr 0; have rc1 : w50.cell? ⟨gr, 1, none⟩ = some (.int .i64 0) := (blk_cell F50.out.hr 1).trans rfl; have rf1 := blk_frozen F50.out.hr 1; have rc2 : w50.cell? ⟨gr, 2, none⟩ = some (.int .i64 0) := (blk_cell F50.out.hr 2).trans rfl; have rf2 := blk_frozen F50.out.hr 2; have rc3 : w50.cell? ⟨gr, 3, none⟩ = some (.int .i64 0) := (blk_cell F50.out.hr 3).trans rfl; have rf3 := blk_frozen F50.out.hr 3; have rc4 : w50.cell? ⟨gr, 4, none⟩ = some (.int .i64 0) := (blk_cell F50.out.hr 4).trans rfl; have rf4 := blk_frozen F50.out.hr 4; have rc5 : w50.cell? ⟨gr, 5, none⟩ = some (.int .i64 0) := (blk_cell F50.out.hr 5).trans rfl; have rf5 := blk_frozen F50.out.hr 5; have rc6 : w50.cell? ⟨gr, 6, none⟩ = some (.int .i64 0) := (blk_cell F50.out.hr 6).trans rfl; have rf6 := blk_frozen F50.out.hr 6; have rc7 : w50.cell? ⟨gr, 7, none⟩ = some (.int .i64 0) := (blk_cell F50.out.hr 7).trans rfl; have rf7 := blk_frozen F50.out.hr 7; have rc8 : w50.cell? ⟨gr, 8, none⟩ = some (.bool false) := (blk_cell F50.out.hr 8).trans rfl; have rf8 := blk_frozen F50.out.hr 8; have rc9 : w50.cell? ⟨gr, 9, none⟩ = some (.slice none 0 0) := (blk_cell F50.out.hr 9).trans rfl; have rf9 := blk_frozen F50.out.hr 9; have rc10 : w50.cell? ⟨gr, 10, none⟩ = some (.slice none 0 0) := (blk_cell F50.out.hr 10).trans rfl; have rf10 := blk_frozen F50.out.hr 10
          go_wp2_with fail
          refine bodyPost_ret (results_ct rfl _ _ gr 28 #[.int .i64 kx, .int .i64 ax, .int .i64 bx, .int .i64 cx, .int .i64 dx, .int .i64 fx, .int .i64 hx, .int .i64 am, .bool ye, .slice A8 acc.length c8, .slice A9 nc.length c9] (0, 0) _ rfl (set11_blk F50.out.hr (.int .i64 kx) (.int .i64 ax) (.int .i64 bx) (.int .i64 cx) (.int .i64 dx) (.int .i64 fx) (.int .i64 hx) (.int .i64 am) (.bool ye) (.slice A8 acc.length c8) (.slice A9 nc.length c9)) Try.underlying28 rfl (by kernel_rfl)) rfl ?_
          rw [HFR.out]
          exact ⟨set11_far (g := gr) F50.out.keep (by have := F50.out.ne; omega) (.int .i64 kx) (.int .i64 ax) (.int .i64 bx) (.int .i64 cx) (.int .i64 dx) (.int .i64 fx) (.int .i64 hx) (.int .i64 am) (.bool ye) (.slice A8 acc.length c8) (.slice A9 nc.length c9), set11_below (g := gr) F50.out.bel (by have := F50.out.ne; omega) (.int .i64 kx) (.int .i64 ax) (.int .i64 bx) (.int .i64 cx) (.int .i64 dx) (.int .i64 fx) (.int .i64 hx) (.int .i64 am) (.bool ye) (.slice A8 acc.length c8) (.slice A9 nc.length c9), R50.out.kept (set11_kept w50 gr (.int .i64 kx) (.int .i64 ax) (.int .i64 bx) (.int .i64 cx) (.int .i64 dx) (.int .i64 fx) (.int .i64 hx) (.int .i64 am) (.bool ye) (.slice A8 acc.length c8) (.slice A9 nc.length c9)) (fun k hk => by subst hk; have := F50.out.ne; exact ⟨by omega, .inl (by omega)⟩), _, _, rfl, Kd.R_mono (Kd.R_kept O50.out (set11_kept w50 gr (.int .i64 kx) (.int .i64 ax) (.int .i64 bx) (.int .i64 cx) (.int .i64 dx) (.int .i64 fx) (.int .i64 hx) (.int .i64 am) (.bool ye) (.slice A8 acc.length c8) (.slice A9 nc.length c9)) (fun k hk e => hk.1.2.2.1 e)) (fun _ _ => trivial), Kd.R_mono (Kd.R_kept Q50.out (set11_kept w50 gr (.int .i64 kx) (.int .i64 ax) (.int .i64 bx) (.int .i64 cx) (.int .i64 dx) (.int .i64 fx) (.int .i64 hx) (.int .i64 am) (.bool ye) (.slice A8 acc.length c8) (.slice A9 nc.length c9)) (fun k hk e => by subst e; exact absurd LT30.out.2.1 (Nat.not_lt.mpr hk))) (fun k hk e => absurd (O50.out.1 k e.symm).2 (Nat.not_lt.mpr hk))⟩
        have z1 : (eq != 0) = true := bne_iff_ne.mpr hz
        have HFR := Aside0.mk (show fromF l (p0, e0) = (z28, eq, pq, eq) by unfold fromF; simp only [HQ1.out, HQ2.out, HQ3.out, HQ4.out, HQ5.out, HQ6.out, HQ7.out, HQ8.out, HQ9.out, HQ10.out, Int.toNat_natCast, HLE.out, HQN.out, HNE.out]; rw [if_neg HOK.out, if_neg hz])
        clear hz
        have rc0 : w50.cell? ⟨gr, 0, none⟩ = some (.int .i64 0) := (blk_cell F50.out.hr 0).trans rfl; have rf0 := blk_frozen F50.out.hr 0; have rc1 : w50.cell? ⟨gr, 1, none⟩ = some (.int .i64 0) := (blk_cell F50.out.hr 1).trans rfl; have rf1 := blk_frozen F50.out.hr 1; have rc2 : w50.cell? ⟨gr, 2, none⟩ = some (.int .i64 0) := (blk_cell F50.out.hr 2).trans rfl; have rf2 := blk_frozen F50.out.hr 2; have rc3 : w50.cell? ⟨gr, 3, none⟩ = some (.int .i64 0) := (blk_cell F50.out.hr 3).trans rfl; have rf3 := blk_frozen F50.out.hr 3; have rc4 : w50.cell? ⟨gr, 4, none⟩ = some (.int .i64 0) := (blk_cell F50.out.hr 4).trans rfl; have rf4 := blk_frozen F50.out.hr 4; have rc5 : w50.cell? ⟨gr, 5, none⟩ = some (.int .i64 0) := (blk_cell F50.out.hr 5).trans rfl; have rf5 := blk_frozen F50.out.hr 5; have rc6 : w50.cell? ⟨gr, 6, none⟩ = some (.int .i64 0) := (blk_cell F50.out.hr 6).trans rfl; have rf6 := blk_frozen F50.out.hr 6; have rc7 : w50.cell? ⟨gr, 7, none⟩ = some (.int .i64 0) := (blk_cell F50.out.hr 7).trans rfl; have rf7 := blk_frozen F50.out.hr 7; have rc8 : w50.cell? ⟨gr, 8, none⟩ = some (.bool false) := (blk_cell F50.out.hr 8).trans rfl; have rf8 := blk_frozen F50.out.hr 8; have rc9 : w50.cell? ⟨gr, 9, none⟩ = some (.slice none 0 0) := (blk_cell F50.out.hr 9).trans rfl; have rf9 := blk_frozen F50.out.hr 9; have rc10 : w50.cell? ⟨gr, 10, none⟩ = some (.slice none 0 0) := (blk_cell F50.out.hr 10).trans rfl; have rf10 := blk_frozen F50.out.hr 10
        go_wp2_with fail
        refine bodyPost_ret (results_ct rfl _ _ gr 28 #[.int .i64 0, .int .i64 0, .int .i64 0, .int .i64 0, .int .i64 0, .int .i64 0, .int .i64 0, .int .i64 0, .bool false, .slice none 0 0, .slice none 0 0] (0, 0) _ rfl (set11_blk F50.out.hr (.int .i64 0) (.int .i64 0) (.int .i64 0) (.int .i64 0) (.int .i64 0) (.int .i64 0) (.int .i64 0) (.int .i64 0) (.bool false) (.slice none 0 0) (.slice none 0 0)) Try.underlying28 rfl (by kernel_rfl)) rfl ?_
        rw [HFR.out]
        refine ⟨set11_far (g := gr) F50.out.keep (by have := F50.out.ne; omega) (.int .i64 0) (.int .i64 0) (.int .i64 0) (.int .i64 0) (.int .i64 0) (.int .i64 0) (.int .i64 0) (.int .i64 0) (.bool false) (.slice none 0 0) (.slice none 0 0), set11_below (g := gr) F50.out.bel (by have := F50.out.ne; omega) (.int .i64 0) (.int .i64 0) (.int .i64 0) (.int .i64 0) (.int .i64 0) (.int .i64 0) (.int .i64 0) (.int .i64 0) (.bool false) (.slice none 0 0) (.slice none 0 0), R50.out.kept (set11_kept w50 gr (.int .i64 0) (.int .i64 0) (.int .i64 0) (.int .i64 0) (.int .i64 0) (.int .i64 0) (.int .i64 0) (.int .i64 0) (.bool false) (.slice none 0 0) (.slice none 0 0)) (fun k hk => by subst hk; have := F50.out.ne; exact ⟨by omega, .inl (by omega)⟩), .slice none 0 0, .slice none 0 0, rfl, Kd.R_nil _ _ _ _ _, Kd.R_nil _ _ _ _ _⟩
    have d1 : decide ((j : Int) > 0) = true := decide_eq_true (by omega)
    have d2 : decide (0 < (j : Int)) = true := decide_eq_true (by omega)
    have d5 : decide (0 < j) = true := decide_eq_true (by omega)
    have d6 := eq_true (show 0 < j by omega)
    by_cases he : ee = 0
    · have t8 : (ee == 0) = true := beq_iff_eq.mpr he
      obtain ⟨i, rfl⟩ : ∃ i, j = i + 1 := ⟨j - 1, by omega⟩
      obtain ⟨lx, pa, ea, hqa, hpa, -, ka, hfa⟩ := rI_ok HL.out BB.out (e := ee) HJ8.out.2.1 1073741824 (by decide)
      obtain ⟨ly, pb, eb, hqb, hpb, -, kb, hfb⟩ := rI_ok HL.out BB.out (e := ea) hpa 1073741824 (by decide)
      obtain ⟨lz, pc, ec, hqc, hpc, -, kc, hfc⟩ := rI_ok HL.out BB.out (e := eb) hpb 1073741824 (by decide)
      obtain ⟨lw, pd, ed, hqd, hpd, kd, hfd⟩ := rN_ok HL.out BB.out (e := ec) hpc
      have hstep : linesF l (i + 1) (pp, ee) = (⟨⟨lx, ly⟩, lz, lw⟩ :: (linesF l i (pd, ed)).1, (linesF l i (pd, ed)).2) := by
        simp only [linesF, he, if_true]
        rw [he] at hqa
        simp only [hqa, hqb, hqc, hqd]
      have HNX := Aside0.mk (show linesF l cnt (p10, e10) = ((acc ++ [⟨⟨lx, ly⟩, lz, lw⟩]) ++ (linesF l i (pd, ed)).1, (linesF l i (pd, ed)).2) by rw [HLS.out, hstep]; simp)
      have HA1 := Aside0.mk hfa; have HA2 := Aside0.mk hfb; have HA3 := Aside0.mk hfc; have HA4 := Aside0.mk hfd; have HPD := Aside0.mk hpd
      have b2 : wrap64 (((i + 1 : Nat) : Int) - 1) = (i : Int) := by have := HJ8.out; unfold wrap64; omega
      have b3 : wrap64 ((i : Int) + 1 - 1) = (i : Int) := by have := HJ8.out; unfold wrap64; omega
      have b4 : wrap64 (i : Int) = (i : Int) := by have := HJ8.out; unfold wrap64; omega
      have d3 : decide ((i : Int) + 1 > 0) = true := decide_eq_true (by omega)
      have d4 : decide (0 < (i : Int) + 1) = true := decide_eq_true (by omega)
      clear he hj hqa hpa hfa hqb hpb hfb hqc hpc hfc hqd hpd hfd hstep
      go_wp2_with fail
      refine (rd_Err R20.out (show code_Reader_Err.f l (pp : Int) ee = some (ee, (pp : Int), ee) from rfl)).mono ?_; rintro x w21 ⟨rfl, hR, hb, hk⟩; have F21 := Aside0.mk (F20.out.call hb hk); have R21 := Aside0.mk hR; have O21_ := Aside0.mk (Kd.R_keep O20.out hk (fun k q e => by have := q.1; have := G0.out; omega)); clear hR hb hk
      clear pc0
      have O21 := Aside0.mk (show Kd.R k50 50 w21 w.heap.size (fun k => w.heap.size ≤ k ∧ k ≠ gp ∧ k ≠ gr ∧ k ≠ gm) (.slice A8 acc.length c8) acc from O21_.out)
      clear O21_
      go_wp2_with (first | ((with_reducible refine gate_dst (N := 7) rfl ?_); refine box_event ?hg (N := 7) ?hd (cs := #[.int .i64 0, .int .i64 0, .int .i64 0, .int .i64 0]) (t := 50) ?hr ?_; (case hd => rfl); (case hg => rfl); (case hr => first | (go_simp; done) | (go_simp; rfl)); intro gl hg w22 hbox hb; have F22 := Aside0.mk (F21.out.below hb); have R22 := Aside0.mk (R21.out.below hb); have O22 := Aside0.mk (Kd.R_mono (ok' := fun k => (w.heap.size ≤ k ∧ k ≠ gp ∧ k ≠ gr ∧ k ≠ gm) ∧ k ≠ gl) (Kd.R_below (Kd.R_bound O21.out) hb) (fun k hk => ⟨hk.1, fun e => by subst e; rw [hg] at hk; exact absurd hk.2.2.1 (Nat.lt_irrefl _)⟩)); have L22 := Aside0.mk hbox; have GL := Aside0.mk (show (w.heap.size ≤ gl ∧ gp ≠ gl ∧ gr ≠ gl ∧ gm ≠ gl) ∧ gl ≠ g from ⟨⟨by rw [hg]; exact F21.out.keep.1, by rw [hg]; exact Nat.ne_of_lt (blk_lt F21.out.hp), by rw [hg]; exact Nat.ne_of_lt (blk_lt F21.out.hr), by rw [hg]; exact Nat.ne_of_lt (blk_lt F21.out.hm)⟩, by rw [hg]; have h1 := F21.out.keep.1; have h2 := G0.out; omega⟩); clear hb hg hbox))
      refine start_ (n := 18) (S := fun w' => w'.cell? ⟨gp, 0, none⟩ = some (.pointer (some ⟨g, 0, none⟩))) (ds := [10, 13, 15, 17]) #[false, false, false, false, false, false, false, false, false, false, false, false, false, false, false, false, false, false] (by kernel_rfl) rfl rfl ((blk_cell (F22.out.drew).hp 0).trans rfl) (fun hHeld => ?_)
      refine pure_ (i := 0) (N := some 65) (v := ?_) (a' := ?_) #[true, false, false, false, false, false, false, false, false, false, false, false, false, false, false, false, false, false] rfl rfl (by kernel_rfl) (fun _ _ _ h => h) (Or.inl ⟨by rfl, ?_⟩) ?_ ?_
      rotate_left
      · intro w'
        go_simp
        with_reducible rfl
      rotate_left
      · simp only [Act.put, List.setIfInBounds_toArray, List.set_cons_zero, List.set_cons_succ, i64_w, i32_w]
        rfl
      refine pure_ (i := 2) (N := some 67) (v := ?_) (a' := ?_) #[true, false, true, false, false, false, false, false, false, false, false, false, false, false, false, false, false, false] rfl rfl (by kernel_rfl) (fun _ _ _ h => h) (Or.inl ⟨by rfl, ?_⟩) ?_ ?_
      rotate_left
      · intro w'
        go_simp
        with_reducible rfl
      rotate_left
      · simp only [Act.put, List.setIfInBounds_toArray, List.set_cons_zero, List.set_cons_succ, i64_w, i32_w]
        rfl
      refine pure_ (i := 4) (N := some 69) (v := ?_) (a' := ?_) #[true, false, true, false, true, false, false, false, false, false, false, false, false, false, false, false, false, false] rfl rfl (by kernel_rfl) (fun _ _ _ h => h) (Or.inl ⟨by rfl, ?_⟩) ?_ ?_
      rotate_left
      · intro w'
        go_simp
        with_reducible rfl
      rotate_left
      · simp only [Act.put, List.setIfInBounds_toArray, List.set_cons_zero, List.set_cons_succ, i64_w, i32_w]
        rfl
      refine take_ (i := 6) (N := some 71) (v := ?_) (a' := ?_) #[true, false, true, false, true, false, true, false, false, false, false, false, false, false, false, false, false, false] rfl rfl (by kernel_rfl) (fun _ _ _ h => h) (Or.inl ⟨by rfl, ?_⟩) hHeld ?_ ?_
      rotate_left
      · intro w' s0
        go_simp
        with_reducible rfl
      rotate_left
      · simp only [Act.put, List.setIfInBounds_toArray, List.set_cons_zero, List.set_cons_succ, i64_w, i32_w]
        rfl
      refine one_ (i := 1) (N := some 66) #[true, true, true, false, true, false, true, false, false, false, false, false, false, false, false, false, false, false] rfl rfl (by kernel_rfl) (by decide) (fun K hK => ?_)
      refine call_ 33 #[.pointer (some ⟨gp, 0, none⟩)] (by rfl) rfl ?hr ?_
      (case hr => first | (go_simp; done) | (go_simp; rfl))
      with_reducible refine (next_calls (w := w22.drew) F22.out.drew R22.out.drew HA1.out).mono ?_
      rintro e w23 ⟨rfl, hR, hb, hk⟩
      refine ⟨_, rfl, ?_⟩
      have F23 := Aside0.mk (F22.out.drew.call hb hk)
      have R23 := Aside0.mk hR
      have O23 := Aside0.mk (Kd.R_keep (Kd.R_drew O22.out) hk (fun k q e => by have := q.1.1; have := G0.out; omega))
      have L23 := Aside0.mk (hk.blk (blk_drew L22.out) GL.out.2 (by simp))
      clear hR hb hk
      refine hK.out _ _ ((blk_cell (F23.out).hp 0).trans rfl) (fun hHeld => ?_)
      clear hK K
      refine norm_ (a' := ?_) ?_ ?_
      rotate_left
      · show Act.put _ (some 66) _ = _
        simp only [Act.put, List.setIfInBounds_toArray, List.set_cons_zero, List.set_cons_succ, i64_w, i32_w]
        rfl
      refine pure_ (i := 8) (N := some 73) (v := ?_) (a' := ?_) #[true, true, true, false, true, false, true, false, true, false, false, false, false, false, false, false, false, false] rfl rfl (by kernel_rfl) (fun _ _ _ h => h) (Or.inl ⟨by rfl, ?_⟩) ?_ ?_
      rotate_left
      · intro w'
        go_simp
        with_reducible rfl
      rotate_left
      · simp only [Act.put, List.setIfInBounds_toArray, List.set_cons_zero, List.set_cons_succ, i64_w, i32_w]
        rfl
      refine pure_ (i := 9) (N := some 74) (v := ?_) (a' := ?_) #[true, true, true, false, true, false, true, false, true, true, false, false, false, false, false, false, false, false] rfl rfl (by kernel_rfl) (fun _ _ _ h => h) (Or.inl ⟨by rfl, ?_⟩) ?_ ?_
      rotate_left
      · intro w'
        go_simp
        with_reducible rfl
      rotate_left
      · simp only [Act.put, List.setIfInBounds_toArray, List.set_cons_zero, List.set_cons_succ, i64_w, i32_w]
        rfl
      refine one_ (i := 3) (N := some 68) #[true, true, true, true, true, false, true, false, true, true, false, false, false, false, false, false, false, false] rfl rfl (by kernel_rfl) (by decide) (fun K hK => ?_)
      refine call_ 33 #[.pointer (some ⟨gp, 0, none⟩)] (by rfl) rfl ?hr ?_
      (case hr => first | (go_simp; done) | (go_simp; rfl))
      with_reducible refine (next_calls F23.out R23.out HA2.out).mono ?_
      rintro e w24 ⟨rfl, hR, hb, hk⟩
      refine ⟨_, rfl, ?_⟩
      have F24 := Aside0.mk (F23.out.call hb hk)
      have R24 := Aside0.mk hR
      have O24 := Aside0.mk (Kd.R_keep O23.out hk (fun k q e => by have := q.1.1; have := G0.out; omega))
      have L24 := Aside0.mk (hk.blk L23.out GL.out.2 (by simp))
      clear hR hb hk
      refine hK.out _ _ ((blk_cell (F24.out).hp 0).trans rfl) (fun hHeld => ?_)
      clear hK K
      refine norm_ (a' := ?_) ?_ ?_
      rotate_left
      · show Act.put _ (some 68) _ = _
        simp only [Act.put, List.setIfInBounds_toArray, List.set_cons_zero, List.set_cons_succ, i64_w, i32_w]
        rfl
      refine one_ (i := 5) (N := some 70) #[true, true, true, true, true, true, true, false, true, true, false, false, false, false, false, false, false, false] rfl rfl (by kernel_rfl) (by decide) (fun K hK => ?_)
      refine call_ 33 #[.pointer (some ⟨gp, 0, none⟩)] (by rfl) rfl ?hr ?_
      (case hr => first | (go_simp; done) | (go_simp; rfl))
      with_reducible refine (next_calls F24.out R24.out HA3.out).mono ?_
      rintro e w25 ⟨rfl, hR, hb, hk⟩
      refine ⟨_, rfl, ?_⟩
      have F25 := Aside0.mk (F24.out.call hb hk)
      have R25 := Aside0.mk hR
      have O25 := Aside0.mk (Kd.R_keep O24.out hk (fun k q e => by have := q.1.1; have := G0.out; omega))
      have L25 := Aside0.mk (hk.blk L24.out GL.out.2 (by simp))
      clear hR hb hk
      refine hK.out _ _ ((blk_cell (F25.out).hp 0).trans rfl) (fun hHeld => ?_)
      clear hK K
      refine norm_ (a' := ?_) ?_ ?_
      rotate_left
      · show Act.put _ (some 70) _ = _
        simp only [Act.put, List.setIfInBounds_toArray, List.set_cons_zero, List.set_cons_succ, i64_w, i32_w]
        rfl
      refine one_ (i := 7) (N := some 72) #[true, true, true, true, true, true, true, true, true, true, false, false, false, false, false, false, false, false] rfl rfl (by kernel_rfl) (by decide) (fun K hK => ?_)
      refine goes_ Try.func34 (by kernel_rfl) rfl #[.pointer (some ⟨g, 0, none⟩)] (by rfl) rfl rfl (by simp only [List.map_toArray, List.map_cons, List.map_nil]; rfl) ?_
      with_reducible refine (rd_Num R25.out HA4.out).mono ?_
      rintro e w26 ⟨rfl, hR, hb, hk⟩
      refine ⟨_, rfl, ?_⟩
      have F26 := Aside0.mk (F25.out.call hb hk)
      have R26 := Aside0.mk hR
      have O26 := Aside0.mk (Kd.R_keep O25.out hk (fun k q e => by have := q.1.1; have := G0.out; omega))
      have L26 := Aside0.mk (hk.blk L25.out GL.out.2 (by simp))
      clear hR hb hk
      have lc0 : w26.cell? ⟨gl, 0, none⟩ = some (.int .i64 0) := (blk_cell L26.out 0).trans rfl
      have lf0 := blk_frozen L26.out 0
      have lc1 : w26.cell? ⟨gl, 1, none⟩ = some (.int .i64 0) := (blk_cell L26.out 1).trans rfl
      have lf1 := blk_frozen L26.out 1
      have lc2 : w26.cell? ⟨gl, 2, none⟩ = some (.int .i64 0) := (blk_cell L26.out 2).trans rfl
      have lf2 := blk_frozen L26.out 2
      have lc3 : w26.cell? ⟨gl, 3, none⟩ = some (.int .i64 0) := (blk_cell L26.out 3).trans rfl
      have lf3 := blk_frozen L26.out 3
      refine hK.out _ _ ((blk_cell (F26.out).hp 0).trans rfl) (fun hHeld => ?_)
      clear hK K
      refine norm_ (a' := ?_) ?_ ?_
      rotate_left
      · show Act.put _ (some 72) _ = _
        simp only [Act.put, List.setIfInBounds_toArray, List.set_cons_zero, List.set_cons_succ, i64_w, i32_w]
        rfl
      refine last_ (i := 10) (N := none) #[true, true, true, true, true, true, true, true, true, true, true, false, false, false, false, false, false, false] rfl rfl (by kernel_rfl) (by decide) (fun K hK => ?_)
      refine skip_ (w1 := ?_) (by rfl) rfl ?_ ?_
      rotate_left
      · go_simp
        rfl
      refine hK.out _ _ ?_
      clear hK K
      refine pure_ (i := 11) (N := some 75) (v := ?_) (a' := ?_) #[true, true, true, true, true, true, true, true, true, true, true, true, false, false, false, false, false, false] rfl rfl (by kernel_rfl) (fun _ _ _ h => h) (Or.inl ⟨by rfl, ?_⟩) ?_ ?_
      rotate_left
      · intro w'
        go_simp
        with_reducible rfl
      rotate_left
      · simp only [Act.put, List.setIfInBounds_toArray, List.set_cons_zero, List.set_cons_succ, i64_w, i32_w]
        rfl
      refine pure_ (i := 12) (N := some 76) (v := ?_) (a' := ?_) #[true, true, true, true, true, true, true, true, true, true, true, true, true, false, false, false, false, false] rfl rfl (by kernel_rfl) (fun _ _ _ h => h) (Or.inl ⟨by rfl, ?_⟩) ?_ ?_
      rotate_left
      · intro w'
        go_simp
        with_reducible rfl
      rotate_left
      · simp only [Act.put, List.setIfInBounds_toArray, List.set_cons_zero, List.set_cons_succ, i64_w, i32_w]
        rfl
      refine last_ (i := 13) (N := none) #[true, true, true, true, true, true, true, true, true, true, true, true, true, true, false, false, false, false] rfl rfl (by kernel_rfl) (by decide) (fun K hK => ?_)
      refine skip_ (w1 := ?_) (by rfl) rfl ?_ ?_
      rotate_left
      · go_simp
        rfl
      refine hK.out _ _ ?_
      clear hK K
      refine pure_ (i := 14) (N := some 77) (v := ?_) (a' := ?_) #[true, true, true, true, true, true, true, true, true, true, true, true, true, true, true, false, false, false] rfl rfl (by kernel_rfl) (fun _ _ _ h => h) (Or.inl ⟨by rfl, ?_⟩) ?_ ?_
      rotate_left
      · intro w'
        go_simp
        with_reducible rfl
      rotate_left
      · simp only [Act.put, List.setIfInBounds_toArray, List.set_cons_zero, List.set_cons_succ, i64_w, i32_w]
        rfl
      refine last_ (i := 15) (N := none) #[true, true, true, true, true, true, true, true, true, true, true, true, true, true, true, true, false, false] rfl rfl (by kernel_rfl) (by decide) (fun K hK => ?_)
      refine skip_ (w1 := ?_) (by rfl) rfl ?_ ?_
      rotate_left
      · go_simp
        rfl
      refine hK.out _ _ ?_
      clear hK K
      refine pure_ (i := 16) (N := some 78) (v := ?_) (a' := ?_) #[true, true, true, true, true, true, true, true, true, true, true, true, true, true, true, true, true, false] rfl rfl (by kernel_rfl) (fun _ _ _ h => h) (Or.inl ⟨by rfl, ?_⟩) ?_ ?_
      rotate_left
      · intro w'
        go_simp
        with_reducible rfl
      rotate_left
      · simp only [Act.put, List.setIfInBounds_toArray, List.set_cons_zero, List.set_cons_succ, i64_w, i32_w]
        rfl
      refine last_ (i := 17) (N := none) #[true, true, true, true, true, true, true, true, true, true, true, true, true, true, true, true, true, true] rfl rfl (by kernel_rfl) (by decide) (fun K hK => ?_)
      refine skip_ (w1 := ?_) (by rfl) rfl ?_ ?_
      rotate_left
      · go_simp
        rfl
      refine hK.out _ _ ?_
      clear hK K
      refine done_ (by kernel_rfl) ?_


      have F27 := Aside0.mk ((((F26.out.far GL.out.1 0 (.int .i64 lx)).far GL.out.1 1 (.int .i64 ly)).far GL.out.1 2 (.int .i64 lz)).far GL.out.1 3 (.int .i64 lw)); have R27 := Aside0.mk ((((R26.out.set (gx := gl) (by have := F26.out.ne; have := GL.out.1.1; omega) 0 (.int .i64 lx)).set (gx := gl) (by have := F26.out.ne; have := GL.out.1.1; omega) 1 (.int .i64 ly)).set (gx := gl) (by have := F26.out.ne; have := GL.out.1.1; omega) 2 (.int .i64 lz)).set (gx := gl) (by have := F26.out.ne; have := GL.out.1.1; omega) 3 (.int .i64 lw))
      have O27 := Aside0.mk (Kd.R_kept O26.out (set4_kept w26 gl (.int .i64 lx) (.int .i64 ly) (.int .i64 lz) (.int .i64 lw)) (fun k hk e => hk.2 e)); have L27 := Aside0.mk (set4_blk L26.out (.int .i64 lx) (.int .i64 ly) (.int .i64 lz) (.int .i64 lw))
      unfold set4 at O27 L27
      clear F22 R22 O22 L22 F23 R23 O23 L23 F24 R24 O24 L24 F25 R25 O25 L25 F26 R26 O26 L26 lc0 lf0 lc1 lf1 lc2 lf2 lc3 lf3
      generalize (((w26.setCell ⟨gl, 0, none⟩ (.int .i64 lx)).setCell ⟨gl, 1, none⟩ (.int .i64 ly)).setCell ⟨gl, 2, none⟩ (.int .i64 lz)).setCell ⟨gl, 3, none⟩ (.int .i64 lw) = w27 at F27 R27 O27 L27 ⊢
      have lc0 : w27.cell? ⟨gl, 0, none⟩ = some (.int .i64 lx) := (blk_cell L27.out 0).trans rfl; have lf0 := blk_frozen L27.out 0; have lc1 : w27.cell? ⟨gl, 1, none⟩ = some (.int .i64 ly) := (blk_cell L27.out 1).trans rfl; have lf1 := blk_frozen L27.out 1; have lc2 : w27.cell? ⟨gl, 2, none⟩ = some (.int .i64 lz) := (blk_cell L27.out 2).trans rfl; have lf2 := blk_frozen L27.out 2; have lc3 : w27.cell? ⟨gl, 3, none⟩ = some (.int .i64 lw) := (blk_cell L27.out 3).trans rfl; have lf3 := blk_frozen L27.out 3
      have nc0 : w27.cell? ⟨gm, 0, none⟩ = some (.int .i64 kx) := (blk_cell F27.out.hm 0).trans rfl; have nf0 := blk_frozen F27.out.hm 0; have nc1 : w27.cell? ⟨gm, 1, none⟩ = some (.int .i64 ax) := (blk_cell F27.out.hm 1).trans rfl; have nf1 := blk_frozen F27.out.hm 1; have nc2 : w27.cell? ⟨gm, 2, none⟩ = some (.int .i64 bx) := (blk_cell F27.out.hm 2).trans rfl; have nf2 := blk_frozen F27.out.hm 2; have nc3 : w27.cell? ⟨gm, 3, none⟩ = some (.int .i64 cx) := (blk_cell F27.out.hm 3).trans rfl; have nf3 := blk_frozen F27.out.hm 3; have nc4 : w27.cell? ⟨gm, 4, none⟩ = some (.int .i64 dx) := (blk_cell F27.out.hm 4).trans rfl; have nf4 := blk_frozen F27.out.hm 4; have nc5 : w27.cell? ⟨gm, 5, none⟩ = some (.int .i64 fx) := (blk_cell F27.out.hm 5).trans rfl; have nf5 := blk_frozen F27.out.hm 5; have nc6 : w27.cell? ⟨gm, 6, none⟩ = some (.int .i64 hx) := (blk_cell F27.out.hm 6).trans rfl; have nf6 := blk_frozen F27.out.hm 6; have nc7 : w27.cell? ⟨gm, 7, none⟩ = some (.int .i64 am) := (blk_cell F27.out.hm 7).trans rfl; have nf7 := blk_frozen F27.out.hm 7; have nc8 : w27.cell? ⟨gm, 8, none⟩ = some (.bool ye) := (blk_cell F27.out.hm 8).trans rfl; have nf8 := blk_frozen F27.out.hm 8; have nc9 : w27.cell? ⟨gm, 9, none⟩ = some (.slice A8 acc.length c8) := (blk_cell F27.out.hm 9).trans rfl; have nf9 := blk_frozen F27.out.hm 9; have nc10 : w27.cell? ⟨gm, 10, none⟩ = some (.slice none 0 0) := (blk_cell F27.out.hm 10).trans rfl; have nf10 := blk_frozen F27.out.hm 10
      go_wp2_with (first | ((with_reducible refine gate_dst (N := 82) rfl ?_); refine Kd.R_lit k50 (w0 := w27) w27.heap.size 50 ?hg (N := 82) ?hd (xs := [⟨⟨lx, ly⟩, lz, lw⟩]) (inner := [.int .i64 lx, .int .i64 ly, .int .i64 lz, .int .i64 lw]) (ok := fun _ => True) (okp := fun _ => True) ?hr ?hp (fun _ hk => hk) trivial (Below.refl _ _) (Nat.le_refl _) (by simp) ?_; (case hd => rfl); (case hg => rfl); (case hr => first | (go_simp; done) | (go_simp; rfl)); (case hp => exact (Reps.snoc (Reps.none _ 4) (k50_mkM _ _ _ ⟨⟨lx, ly⟩, lz, lw⟩) rfl)); intro vL w28 hoL hb hg_ hnew_; clear hg_ hnew_; obtain ⟨AL, cL, eL, hcL, hrL⟩ := Kd.R_reads hoL; subst eL; have RL := Aside0.mk hrL; have F28 := Aside0.mk (F27.out.below hb); have R28 := Aside0.mk (R27.out.below hb); have O28 := Aside0.mk (Kd.R_below O27.out hb); clear hoL hb hcL hrL F27) | ((with_reducible refine gate_builtin (b := .append) (xs := #[.tmp 80, .tmp 82]) rfl ?_); at_builtin; refine Kd.R_append_rows k50 (Rr := k50.K w28) (w0 := w28) w.heap.size rfl (.tmp 80) (.tmp 82) 25 50 (.agg #[.int .i64 0, .int .i64 0, .int .i64 0, .int .i64 0]) 32 rfl Try.underlying25 info50 rfl (by decide) (by omega) (.slice A8 acc.length c8) acc [⟨⟨lx, ly⟩, lz, lw⟩] _ _ _ (fun k => w.heap.size ≤ k ∧ k ≠ gp ∧ k ≠ gr ∧ k ≠ gm) (fun _ => False) rfl rfl ?aO ?aR (fun x cs h => by rw [k50_open h]; exact k50_mkM _ _ _ x) (fun _ h => h.elim) ?aF ?aB ?aS ?aL ?_; (case aR => exact RL.out); (case aB => exact Below.refl _ _); (case aF => exact (fun k hk => ⟨Nat.le_trans F28.out.keep.1 hk, fun e => by subst e; exact absurd (blk_lt F28.out.hp) (Nat.not_lt.mpr hk), fun e => by subst e; exact absurd (blk_lt F28.out.hr) (Nat.not_lt.mpr hk), fun e => by subst e; exact absurd (blk_lt F28.out.hm) (Nat.not_lt.mpr hk)⟩)); (case aO => exact Kd.R_mono O28.out (fun k hk => hk.1)); (case aS => exact F28.out.keep.1); (case aL => have := HJ8.out; first | omega | (simp only [List.length_singleton]; omega)); intro v29 w29 ho hb hg hat; obtain ⟨A29, c29, e29⟩ := Kd.R_slice ho; subst e29; rw [List.length_append, List.length_singleton] at ho; have O29 := Aside0.mk ho; have F29 := Aside0.mk (F28.out.grown hb hg (fun e => (O28.out.1 _ e.symm).1.2.1 rfl) (fun e => (O28.out.1 _ e.symm).1.2.2.1 rfl) (fun e => (O28.out.1 _ e.symm).1.2.2.2 rfl)); have R29 := Aside0.mk (R28.out.grown hb G0.out); clear ho hb hg hat F28; clear nc0 nf0 nc1 nf1 nc2 nf2 nc3 nf3 nc4 nf4 nc5 nf5 nc6 nf6 nc7 nf7 nc8 nf8 nc9 nf9 nc10 nf10; have nc0 : w29.cell? ⟨gm, 0, none⟩ = some (.int .i64 kx) := (blk_cell F29.out.hm 0).trans rfl; have nf0 := blk_frozen F29.out.hm 0; have nc1 : w29.cell? ⟨gm, 1, none⟩ = some (.int .i64 ax) := (blk_cell F29.out.hm 1).trans rfl; have nf1 := blk_frozen F29.out.hm 1; have nc2 : w29.cell? ⟨gm, 2, none⟩ = some (.int .i64 bx) := (blk_cell F29.out.hm 2).trans rfl; have nf2 := blk_frozen F29.out.hm 2; have nc3 : w29.cell? ⟨gm, 3, none⟩ = some (.int .i64 cx) := (blk_cell F29.out.hm 3).trans rfl; have nf3 := blk_frozen F29.out.hm 3; have nc4 : w29.cell? ⟨gm, 4, none⟩ = some (.int .i64 dx) := (blk_cell F29.out.hm 4).trans rfl; have nf4 := blk_frozen F29.out.hm 4; have nc5 : w29.cell? ⟨gm, 5, none⟩ = some (.int .i64 fx) := (blk_cell F29.out.hm 5).trans rfl; have nf5 := blk_frozen F29.out.hm 5; have nc6 : w29.cell? ⟨gm, 6, none⟩ = some (.int .i64 hx) := (blk_cell F29.out.hm 6).trans rfl; have nf6 := blk_frozen F29.out.hm 6; have nc7 : w29.cell? ⟨gm, 7, none⟩ = some (.int .i64 am) := (blk_cell F29.out.hm 7).trans rfl; have nf7 := blk_frozen F29.out.hm 7; have nc8 : w29.cell? ⟨gm, 8, none⟩ = some (.bool ye) := (blk_cell F29.out.hm 8).trans rfl; have nf8 := blk_frozen F29.out.hm 8; have nc9 : w29.cell? ⟨gm, 9, none⟩ = some (.slice A8 acc.length c8) := (blk_cell F29.out.hm 9).trans rfl; have nf9 := blk_frozen F29.out.hm 9; have nc10 : w29.cell? ⟨gm, 10, none⟩ = some (.slice none 0 0) := (blk_cell F29.out.hm 10).trans rfl; have nf10 := blk_frozen F29.out.hm 10))
      go_roundg (gk - 1)
      case measure => have := HJ8.out; omega
      case rel => exact ⟨i, pd, ed, acc ++ [⟨⟨lx, ly⟩, lz, lw⟩], _, (by first | rw [b2] | rw [b3] | rw [b4] | rfl), ⟨by have := HJ8.out; omega, HPD.out, by have := HJ8.out; simp only [List.length_append, List.length_singleton]; omega⟩, HNX, ⟨R29.out.set (gx := gm) (by have := F29.out.ne; omega) 9 _⟩, ⟨F29.out.put 9 _ rfl⟩, ⟨Kd.R_kept O29.out ((Kept.refl w29 (fun k => k = gm)).setCell (p := ⟨gm, 9, none⟩) (.inl rfl) _) (fun k hk e => hk.2.2.2 e)⟩⟩
    have t8 : (ee == 0) = false := beq_eq_false_iff_ne.mpr he
    have HLE := Aside0.mk (show linesF l cnt (p10, e10) = (acc, pp, ee) by rw [HLS.out]; obtain ⟨i, rfl⟩ : ∃ i, j = i + 1 := ⟨j - 1, by omega⟩; simp [linesF, he])
    clear he hj
    go_wp2_with fail
    refine (rd_Err R20.out (show code_Reader_Err.f l (pp : Int) ee = some (ee, (pp : Int), ee) from rfl)).mono ?_; rintro x w21 ⟨rfl, hR, hb, hk⟩; have F21 := Aside0.mk (F20.out.call hb hk); have R21 := Aside0.mk hR; have O21_ := Aside0.mk (Kd.R_keep O20.out hk (fun k q e => by have := q.1; have := G0.out; omega)); clear hR hb hk
    have O21 := Aside0.mk (show Kd.R k50 50 w21 w.heap.size (fun k => w.heap.size ≤ k ∧ k ≠ gp ∧ k ≠ gr ∧ k ≠ gm) (.slice A8 acc.length c8) acc from O21_.out)
    clear O21_ pc0
    have pc0 : w21.cell? ⟨gp, 0, none⟩ = some (.pointer (some ⟨g, 0, none⟩)) := (blk_cell F21.out.hp 0).trans rfl
    go_wp2_with fail
    obtain ⟨nn, q1, f1, hqn, hpn, hrn, kN, hfn⟩ := rI_ok HL.out BB.out (e := ee) HJ8.out.2.1 8 (by decide)
    obtain ⟨nt, rfl⟩ : ∃ n : Nat, nn = (n : Int) := ⟨nn.toNat, by omega⟩
    have HQN := Aside0.mk hqn; have HPN := Aside0.mk hpn; have HRN := Aside0.mk (show nt ≤ 8 by omega); have HFN := Aside0.mk hfn
    clear hqn hpn hrn hfn
    refine (rd_Int 0 8 R21.out HFN.out).mono ?_; rintro x w30 ⟨rfl, hR, hb, hk⟩; have F30 := Aside0.mk (F21.out.call hb hk); have R30 := Aside0.mk hR; have O30_ := Aside0.mk (Kd.R_bound (Kd.R_keep O21.out hk (fun k q e => by have := q.1; have := G0.out; omega))); clear hR hb hk
    have O30 := Aside0.mk (Kd.R_mono (ok' := fun k => (w.heap.size ≤ k ∧ k ≠ gp ∧ k ≠ gr ∧ k ≠ gm) ∧ k < w30.heap.size) O30_.out (fun k hk => ⟨hk.1, hk.2.2.1⟩))
    have W30 := Aside0.mk F30.out.keep.1
    have LT30 := Aside0.mk (show gp < w30.heap.size ∧ gr < w30.heap.size ∧ gm < w30.heap.size from ⟨blk_lt F30.out.hp, blk_lt F30.out.hr, blk_lt F30.out.hm⟩)
    clear O30_ pc0
    go_wp2_with fail
    go_loopg [8] (nt + 1) (fun kq t8_ w' => ∃ (j pq : Nat) (eq : Int) (nc : List Int) (u9 : Value), t8_ = .int .i64 (j : Int) ∧ Aside0 (j + 1 = kq ∧ pq ≤ l.length ∧ nc.length + j ≤ 8) ∧ Aside0 (netsF l nt (q1, f1) = (nc ++ (netsF l j (pq, eq)).1, (netsF l j (pq, eq)).2)) ∧ Aside0 (IsR 0 w' g l (pq : Int) eq) ∧ Aside0 (FM w w' g gp gr gm #[.int .i64 kx, .int .i64 ax, .int .i64 bx, .int .i64 cx, .int .i64 dx, .int .i64 fx, .int .i64 hx, .int .i64 am, .bool ye, .slice A8 acc.length c8, u9]) ∧ Aside0 (Kd.R k50 50 w' w.heap.size (fun k => (w.heap.size ≤ k ∧ k ≠ gp ∧ k ≠ gr ∧ k ≠ gm) ∧ k < w30.heap.size) (.slice A8 acc.length c8) acc) ∧ Aside0 (Kd.R (Kd.int .i64) 2 w' w.heap.size (fun k => w30.heap.size ≤ k) u9 nc) ∧ Aside0 (w30.heap.size ≤ w'.heap.size))
    case atStart => exact ⟨nt, q1, f1, [], .slice none 0 0, rfl, ⟨by omega, HPN.out, by have := HRN.out; simp only [List.length_nil]; omega⟩, ⟨by rw [List.nil_append]⟩, R30, F30, O30, ⟨Kd.R_nil _ _ _ _ _⟩, ⟨Nat.le_refl _⟩⟩
    case round =>
      obtain ⟨j2, pq, eq, nc, u9, rfl, HJ, HNS, R40, F40, O40, Q40, S40⟩ := hrel
      obtain ⟨A9, c9, e9_⟩ := Kd.R_slice Q40.out
      subst e9_
      clear F30 R30 O30
      have pc0 : wr.cell? ⟨gp, 0, none⟩ = some (.pointer (some ⟨g, 0, none⟩)) := (blk_cell F40.out.hp 0).trans rfl
      by_cases hj2 : j2 = 0
      · subst hj2
        have y1 : decide (((0 : Nat) : Int) > 0) = false := by decide
        have y2 : decide ((0 : Int) > 0) = false := by decide
        have HNE := Aside0.mk (show netsF l nt (q1, f1) = (nc, pq, eq) by rw [HNS.out]; simp [netsF])
        go_wp2_with fail
        refine (rd_Err R40.out (show code_Reader_Err.f l (pq : Int) eq = some (eq, (pq : Int), eq) from rfl)).mono ?_; rintro x w50 ⟨rfl, hR, hb, hk⟩; have F50 := Aside0.mk (F40.out.call hb hk); have R50 := Aside0.mk hR; have O50 := Aside0.mk (Kd.R_keep O40.out hk (fun k q e => by have := q.1.1; have := G0.out; omega)); have Q50 := Aside0.mk (Kd.R_keep Q40.out hk (fun k q e => by have := W30.out; have := G0.out; omega)); clear hR hb hk
        clear pc0
        by_cases hz : eq = 0
        · have z1 : (eq != 0) = false := bne_eq_false_iff_eq.mpr hz
          have HFR := Aside0.mk (show fromF l (p0, e0) = (⟨kx, ⟨ax, bx⟩, cx, dx, fx, hx, am, ye, acc, nc⟩, 0, pq, eq) by unfold fromF; simp only [HQ1.out, HQ2.out, HQ3.out, HQ4.out, HQ5.out, HQ6.out, HQ7.out, HQ8.out, HQ9.out, HQ10.out, Int.toNat_natCast, HLE.out, HQN.out, HNE.out]; rw [if_neg HOK.out, if_pos hz])
          clear hz
          have mc0 : w50.cell? ⟨gm, 0, none⟩ = some (.int .i64 kx) := (blk_cell F50.out.hm 0).trans rfl; have mf0 := blk_frozen F50.out.hm 0; have mc1 : w50.cell? ⟨gm, 1, none⟩ = some (.int .i64 ax) := (blk_cell F50.out.hm 1).trans rfl; have mf1 := blk_frozen F50.out.hm 1; have mc2 : w50.cell? ⟨gm, 2, none⟩ = some (.int .i64 bx) := (blk_cell F50.out.hm 2).trans rfl; have mf2 := blk_frozen F50.out.hm 2; have mc3 : w50.cell? ⟨gm, 3, none⟩ = some (.int .i64 cx) := (blk_cell F50.out.hm 3).trans rfl; have mf3 := blk_frozen F50.out.hm 3; have mc4 : w50.cell? ⟨gm, 4, none⟩ = some (.int .i64 dx) := (blk_cell F50.out.hm 4).trans rfl; have mf4 := blk_frozen F50.out.hm 4; have mc5 : w50.cell? ⟨gm, 5, none⟩ = some (.int .i64 fx) := (blk_cell F50.out.hm 5).trans rfl; have mf5 := blk_frozen F50.out.hm 5; have mc6 : w50.cell? ⟨gm, 6, none⟩ = some (.int .i64 hx) := (blk_cell F50.out.hm 6).trans rfl; have mf6 := blk_frozen F50.out.hm 6; have mc7 : w50.cell? ⟨gm, 7, none⟩ = some (.int .i64 am) := (blk_cell F50.out.hm 7).trans rfl; have mf7 := blk_frozen F50.out.hm 7; have mc8 : w50.cell? ⟨gm, 8, none⟩ = some (.bool ye) := (blk_cell F50.out.hm 8).trans rfl; have mf8 := blk_frozen F50.out.hm 8; have mc9 : w50.cell? ⟨gm, 9, none⟩ = some (.slice A8 acc.length c8) := (blk_cell F50.out.hm 9).trans rfl; have mf9 := blk_frozen F50.out.hm 9; have mc10 : w50.cell? ⟨gm, 10, none⟩ = some (.slice A9 nc.length c9) := (blk_cell F50.out.hm 10).trans rfl; have mf10 := blk_frozen F50.out.hm 10
          have rc0 : w50.cell? ⟨gr, 0, none⟩ = some (.int .i64 0) := (blk_cell F50.out.hr 0).trans rfl; have rf0 := blk_frozen F50.out.hr 0; have rc1 : w50.cell? ⟨gr, 1, none⟩ = some (.int .i64 0) := (blk_cell F50.out.hr 1).trans rfl; have rf1 := blk_frozen F50.out.hr 1; have rc2 : w50.cell? ⟨gr, 2, none⟩ = some (.int .i64 0) := (blk_cell F50.out.hr 2).trans rfl; have rf2 := blk_frozen F50.out.hr 2; have rc3 : w50.cell? ⟨gr, 3, none⟩ = some (.int .i64 0) := (blk_cell F50.out.hr 3).trans rfl; have rf3 := blk_frozen F50.out.hr 3; have rc4 : w50.cell? ⟨gr, 4, none⟩ = some (.int .i64 0) := (blk_cell F50.out.hr 4).trans rfl; have rf4 := blk_frozen F50.out.hr 4; have rc5 : w50.cell? ⟨gr, 5, none⟩ = some (.int .i64 0) := (blk_cell F50.out.hr 5).trans rfl; have rf5 := blk_frozen F50.out.hr 5; have rc6 : w50.cell? ⟨gr, 6, none⟩ = some (.int .i64 0) := (blk_cell F50.out.hr 6).trans rfl; have rf6 := blk_frozen F50.out.hr 6; have rc7 : w50.cell? ⟨gr, 7, none⟩ = some (.int .i64 0) := (blk_cell F50.out.hr 7).trans rfl; have rf7 := blk_frozen F50.out.hr 7; have rc8 : w50.cell? ⟨gr, 8, none⟩ = some (.bool false) := (blk_cell F50.out.hr 8).trans rfl; have rf8 := blk_frozen F50.out.hr 8; have rc9 : w50.cell? ⟨gr, 9, none⟩ = some (.slice none 0 0) := (blk_cell F50.out.hr 9).trans rfl; have rf9 := blk_frozen F50.out.hr 9; have rc10 : w50.cell? ⟨gr, 10, none⟩ = some (.slice none 0 0) := (blk_cell F50.out.hr 10).trans rfl; have rf10 := blk_frozen F50.out.hr 10
          go_wp2_with fail
          refine bodyPost_ret (results_ct rfl _ _ gr 28 #[.int .i64 kx, .int .i64 ax, .int .i64 bx, .int .i64 cx, .int .i64 dx, .int .i64 fx, .int .i64 hx, .int .i64 am, .bool ye, .slice A8 acc.length c8, .slice A9 nc.length c9] (0, 0) _ rfl (set11_blk F50.out.hr (.int .i64 kx) (.int .i64 ax) (.int .i64 bx) (.int .i64 cx) (.int .i64 dx) (.int .i64 fx) (.int .i64 hx) (.int .i64 am) (.bool ye) (.slice A8 acc.length c8) (.slice A9 nc.length c9)) Try.underlying28 rfl (by kernel_rfl)) rfl ?_
          rw [HFR.out]
          exact ⟨set11_far (g := gr) F50.out.keep (by have := F50.out.ne; omega) (.int .i64 kx) (.int .i64 ax) (.int .i64 bx) (.int .i64 cx) (.int .i64 dx) (.int .i64 fx) (.int .i64 hx) (.int .i64 am) (.bool ye) (.slice A8 acc.length c8) (.slice A9 nc.length c9), set11_below (g := gr) F50.out.bel (by have := F50.out.ne; omega) (.int .i64 kx) (.int .i64 ax) (.int .i64 bx) (.int .i64 cx) (.int .i64 dx) (.int .i64 fx) (.int .i64 hx) (.int .i64 am) (.bool ye) (.slice A8 acc.length c8) (.slice A9 nc.length c9), R50.out.kept (set11_kept w50 gr (.int .i64 kx) (.int .i64 ax) (.int .i64 bx) (.int .i64 cx) (.int .i64 dx) (.int .i64 fx) (.int .i64 hx) (.int .i64 am) (.bool ye) (.slice A8 acc.length c8) (.slice A9 nc.length c9)) (fun k hk => by subst hk; have := F50.out.ne; exact ⟨by omega, .inl (by omega)⟩), _, _, rfl, Kd.R_mono (Kd.R_kept O50.out (set11_kept w50 gr (.int .i64 kx) (.int .i64 ax) (.int .i64 bx) (.int .i64 cx) (.int .i64 dx) (.int .i64 fx) (.int .i64 hx) (.int .i64 am) (.bool ye) (.slice A8 acc.length c8) (.slice A9 nc.length c9)) (fun k hk e => hk.1.2.2.1 e)) (fun _ _ => trivial), Kd.R_mono (Kd.R_kept Q50.out (set11_kept w50 gr (.int .i64 kx) (.int .i64 ax) (.int .i64 bx) (.int .i64 cx) (.int .i64 dx) (.int .i64 fx) (.int .i64 hx) (.int .i64 am) (.bool ye) (.slice A8 acc.length c8) (.slice A9 nc.length c9)) (fun k hk e => by subst e; exact absurd LT30.out.2.1 (Nat.not_lt.mpr hk))) (fun k hk e => absurd (O50.out.1 k e.symm).2 (Nat.not_lt.mpr hk))⟩
        have z1 : (eq != 0) = true := bne_iff_ne.mpr hz
        have HFR := Aside0.mk (show fromF l (p0, e0) = (z28, eq, pq, eq) by unfold fromF; simp only [HQ1.out, HQ2.out, HQ3.out, HQ4.out, HQ5.out, HQ6.out, HQ7.out, HQ8.out, HQ9.out, HQ10.out, Int.toNat_natCast, HLE.out, HQN.out, HNE.out]; rw [if_neg HOK.out, if_neg hz])
        clear hz
        have rc0 : w50.cell? ⟨gr, 0, none⟩ = some (.int .i64 0) := (blk_cell F50.out.hr 0).trans rfl; have rf0 := blk_frozen F50.out.hr 0; have rc1 : w50.cell? ⟨gr, 1, none⟩ = some (.int .i64 0) := (blk_cell F50.out.hr 1).trans rfl; have rf1 := blk_frozen F50.out.hr 1; have rc2 : w50.cell? ⟨gr, 2, none⟩ = some (.int .i64 0) := (blk_cell F50.out.hr 2).trans rfl; have rf2 := blk_frozen F50.out.hr 2; have rc3 : w50.cell? ⟨gr, 3, none⟩ = some (.int .i64 0) := (blk_cell F50.out.hr 3).trans rfl; have rf3 := blk_frozen F50.out.hr 3; have rc4 : w50.cell? ⟨gr, 4, none⟩ = some (.int .i64 0) := (blk_cell F50.out.hr 4).trans rfl; have rf4 := blk_frozen F50.out.hr 4; have rc5 : w50.cell? ⟨gr, 5, none⟩ = some (.int .i64 0) := (blk_cell F50.out.hr 5).trans rfl; have rf5 := blk_frozen F50.out.hr 5; have rc6 : w50.cell? ⟨gr, 6, none⟩ = some (.int .i64 0) := (blk_cell F50.out.hr 6).trans rfl; have rf6 := blk_frozen F50.out.hr 6; have rc7 : w50.cell? ⟨gr, 7, none⟩ = some (.int .i64 0) := (blk_cell F50.out.hr 7).trans rfl; have rf7 := blk_frozen F50.out.hr 7; have rc8 : w50.cell? ⟨gr, 8, none⟩ = some (.bool false) := (blk_cell F50.out.hr 8).trans rfl; have rf8 := blk_frozen F50.out.hr 8; have rc9 : w50.cell? ⟨gr, 9, none⟩ = some (.slice none 0 0) := (blk_cell F50.out.hr 9).trans rfl; have rf9 := blk_frozen F50.out.hr 9; have rc10 : w50.cell? ⟨gr, 10, none⟩ = some (.slice none 0 0) := (blk_cell F50.out.hr 10).trans rfl; have rf10 := blk_frozen F50.out.hr 10
        go_wp2_with fail
        refine bodyPost_ret (results_ct rfl _ _ gr 28 #[.int .i64 0, .int .i64 0, .int .i64 0, .int .i64 0, .int .i64 0, .int .i64 0, .int .i64 0, .int .i64 0, .bool false, .slice none 0 0, .slice none 0 0] (0, 0) _ rfl (set11_blk F50.out.hr (.int .i64 0) (.int .i64 0) (.int .i64 0) (.int .i64 0) (.int .i64 0) (.int .i64 0) (.int .i64 0) (.int .i64 0) (.bool false) (.slice none 0 0) (.slice none 0 0)) Try.underlying28 rfl (by kernel_rfl)) rfl ?_
        rw [HFR.out]
        refine ⟨set11_far (g := gr) F50.out.keep (by have := F50.out.ne; omega) (.int .i64 0) (.int .i64 0) (.int .i64 0) (.int .i64 0) (.int .i64 0) (.int .i64 0) (.int .i64 0) (.int .i64 0) (.bool false) (.slice none 0 0) (.slice none 0 0), set11_below (g := gr) F50.out.bel (by have := F50.out.ne; omega) (.int .i64 0) (.int .i64 0) (.int .i64 0) (.int .i64 0) (.int .i64 0) (.int .i64 0) (.int .i64 0) (.int .i64 0) (.bool false) (.slice none 0 0) (.slice none 0 0), R50.out.kept (set11_kept w50 gr (.int .i64 0) (.int .i64 0) (.int .i64 0) (.int .i64 0) (.int .i64 0) (.int .i64 0) (.int .i64 0) (.int .i64 0) (.bool false) (.slice none 0 0) (.slice none 0 0)) (fun k hk => by subst hk; have := F50.out.ne; exact ⟨by omega, .inl (by omega)⟩), .slice none 0 0, .slice none 0 0, rfl, Kd.R_nil _ _ _ _ _, Kd.R_nil _ _ _ _ _⟩
      have y1 : decide ((j2 : Int) > 0) = true := decide_eq_true (by omega)
      have y2 : decide (0 < (j2 : Int)) = true := decide_eq_true (by omega)
      have y3 : decide (0 < j2) = true := decide_eq_true (by omega)
      have y4 := eq_true (show 0 < j2 by omega)
      by_cases hq : eq = 0
      · have y5 : (eq == 0) = true := beq_iff_eq.mpr hq
        obtain ⟨i2, rfl⟩ : ∃ i, j2 = i + 1 := ⟨j2 - 1, by omega⟩
        obtain ⟨nx, pn, en, hqx, hpx, kx5, hfx⟩ := rN_ok HL.out BB.out (e := eq) HJ.out.2.1
        have hstep : netsF l (i2 + 1) (pq, eq) = (nx :: (netsF l i2 (pn, en)).1, (netsF l i2 (pn, en)).2) := by
          simp only [netsF, hq, if_true]
          rw [hq] at hqx
          simp only [hqx]
        have HNX := Aside0.mk (show netsF l nt (q1, f1) = ((nc ++ [nx]) ++ (netsF l i2 (pn, en)).1, (netsF l i2 (pn, en)).2) by rw [HNS.out, hstep]; simp)
        have HA5 := Aside0.mk hfx; have HPX := Aside0.mk hpx
        have b2 : wrap64 (((i2 + 1 : Nat) : Int) - 1) = (i2 : Int) := by have := HJ.out; unfold wrap64; omega
        have b3 : wrap64 ((i2 : Int) + 1 - 1) = (i2 : Int) := by have := HJ.out; unfold wrap64; omega
        have b4 : wrap64 (i2 : Int) = (i2 : Int) := by have := HJ.out; unfold wrap64; omega
        have y6 : decide ((i2 : Int) + 1 > 0) = true := decide_eq_true (by omega)
        have y7 : decide (0 < (i2 : Int) + 1) = true := decide_eq_true (by omega)
        clear hq hj2 hqx hpx hfx hstep
        go_wp2_with fail
        refine (rd_Err R40.out (show code_Reader_Err.f l (pq : Int) eq = some (eq, (pq : Int), eq) from rfl)).mono ?_; rintro x w41 ⟨rfl, hR, hb, hk⟩; have F41 := Aside0.mk (F40.out.call hb hk); have R41 := Aside0.mk hR; have O41 := Aside0.mk (Kd.R_keep O40.out hk (fun k q e => by have := q.1.1; have := G0.out; omega)); have Q41 := Aside0.mk (Kd.R_keep Q40.out hk (fun k q e => by have := W30.out; have := G0.out; omega)); have S41 := Aside0.mk (Nat.le_trans S40.out hk.1); clear hR hb hk
        clear pc0
        go_wp2_with fail
        refine start_ (n := 8) (S := fun w' => w'.cell? ⟨gp, 0, none⟩ = some (.pointer (some ⟨g, 0, none⟩)) ∧ w'.cell? ⟨gm, 10, none⟩ = some (.slice A9 nc.length c9)) (ds := [7]) #[false, false, false, false, false, false, false, false] (by kernel_rfl) rfl rfl ⟨(blk_cell (F41.out.drew).hp 0).trans rfl, (blk_cell (F41.out.drew).hm 10).trans rfl⟩ (fun hHeld => ?_)
        refine pure_ (i := 0) (N := some 96) (v := ?_) (a' := ?_) #[true, false, false, false, false, false, false, false] rfl rfl (by kernel_rfl) (fun _ _ _ h => h) (Or.inl ⟨by rfl, ?_⟩) ?_ ?_
        rotate_left
        · intro w'
          go_simp
          with_reducible rfl
        rotate_left
        · simp only [Act.put, List.setIfInBounds_toArray, List.set_cons_zero, List.set_cons_succ, i64_w, i32_w]
          rfl
        refine take_ (i := 1) (N := some 97) (v := ?_) (a' := ?_) #[true, true, false, false, false, false, false, false] rfl rfl (by kernel_rfl) (fun _ _ _ h => h) (Or.inl ⟨by rfl, ?_⟩) hHeld ?_ ?_
        rotate_left
        · rintro w' ⟨s0, s1⟩
          go_simp
          with_reducible rfl
        rotate_left
        · simp only [Act.put, List.setIfInBounds_toArray, List.set_cons_zero, List.set_cons_succ, i64_w, i32_w]
          rfl
        refine take_ (i := 2) (N := some 98) (v := ?_) (a' := ?_) #[true, true, true, false, false, false, false, false] rfl rfl (by kernel_rfl) (fun _ _ _ h => h) (Or.inl ⟨by rfl, ?_⟩) hHeld ?_ ?_
        rotate_left
        · rintro w' ⟨s0, s1⟩
          go_simp
          with_reducible rfl
        rotate_left
        · simp only [Act.put, List.setIfInBounds_toArray, List.set_cons_zero, List.set_cons_succ, i64_w, i32_w]
          rfl
        refine one_ (i := 3) (N := some 99) #[true, true, true, true, false, false, false, false] rfl rfl (by kernel_rfl) (by decide) (fun K hK => ?_)
        refine goes_ Try.func34 (by kernel_rfl) rfl #[.pointer (some ⟨g, 0, none⟩)] (by rfl) rfl rfl (by simp only [List.map_toArray, List.map_cons, List.map_nil]; rfl) ?_
        with_reducible refine (rd_Num (w := w41.drew) R41.out.drew HA5.out).mono ?_
        rintro e w42 ⟨rfl, hR, hb, hk⟩
        refine ⟨_, rfl, ?_⟩
        have F42 := Aside0.mk (F41.out.drew.call hb hk)
        have R42 := Aside0.mk hR
        have O42 := Aside0.mk (Kd.R_keep (Kd.R_drew O41.out) hk (fun k q e => by have := q.1.1; have := G0.out; omega))
        have Q42 := Aside0.mk (Kd.R_keep (Kd.R_drew Q41.out) hk (fun k q e => by have := W30.out; have := G0.out; omega))
        have S42 := Aside0.mk (Nat.le_trans S41.out hk.1)
        clear hR hb hk
        refine hK.out _ _ ⟨(blk_cell (F42.out).hp 0).trans rfl, (blk_cell (F42.out).hm 10).trans rfl⟩ (fun hHeld => ?_)
        clear hK K
        refine norm_ (a' := ?_) ?_ ?_
        rotate_left
        · show Act.put _ (some 99) _ = _
          simp only [Act.put, List.setIfInBounds_toArray, List.set_cons_zero, List.set_cons_succ, i64_w, i32_w]
          rfl
        refine one_ (i := 4) (N := some 100) #[true, true, true, true, true, false, false, false] rfl rfl (by kernel_rfl) (by decide) (fun K hK => ?_)
        refine Kd.R_lit_step (Kd.int .i64) (w0 := w42) w42.heap.size 2 (by rfl) (N := 100) ?hd (xs := [nx]) (inner := [.int .i64 nx]) (ok := fun _ => True) (okp := fun _ => True) ?hr ?hp (fun _ hk => hk) trivial (Below.refl _ _) (Nat.le_refl _) (by simp) ?_
        (case hd => rfl)
        (case hr => first | (go_simp; done) | (go_simp; rfl))
        (case hp => exact (Reps.one (show Kd.M (Kd.int .i64) _ _ _ nx [.int .i64 nx] from rfl) (Reps.none _ _)))
        intro vL w43 hoL hb hg_ hnew_
        obtain ⟨AL, cL, eL, hcL, hrL⟩ := Kd.R_reads hoL
        subst eL
        have RL := Aside0.mk hrL
        have F43 := Aside0.mk (F42.out.below hb)
        have R43 := Aside0.mk (R42.out.below hb)
        have O43 := Aside0.mk (Kd.R_below O42.out hb)
        have Q43 := Aside0.mk (Kd.R_below Q42.out hb)
        have S43 := Aside0.mk (Nat.le_trans S42.out hb.size)
        clear hoL hb hg_ hnew_ hcL hrL
        refine hK.out _ _ ⟨(blk_cell (F43.out).hp 0).trans rfl, (blk_cell (F43.out).hm 10).trans rfl⟩ (fun hHeld => ?_)
        clear hK K
        refine norm_ (a' := ?_) ?_ ?_
        rotate_left
        · show Act.put _ (some 100) _ = _
          simp only [Act.put, List.setIfInBounds_toArray, List.set_cons_zero, List.set_cons_succ, i64_w, i32_w]
          rfl
        refine one_ (i := 5) (N := some 101) #[true, true, true, true, true, true, false, false] rfl rfl (by kernel_rfl) (by decide) (fun K hK => ?_)
        refine Kd.R_append_rows_step (Kd.int .i64) (w0 := w43) w.heap.size (by rfl) (.tmp 97) (.tmp 100) 26 2 (.int .i64 0) 8 rfl Try.underlying26 info2 rfl (by decide) (by omega) (.slice A9 nc.length c9) nc [nx] _ _ _ (fun k => w30.heap.size ≤ k) (fun _ => False) rfl rfl ?aO ?aR (fun _ _ h => h) (fun _ h => h.elim) ?aF ?aB ?aS ?aL ?_
        (case aR => exact RL.out)
        (case aB => exact Below.refl _ _)
        (case aF => exact (fun k hk => Nat.le_trans S43.out hk))
        (case aO => exact Q43.out)
        (case aS => exact Nat.le_trans W30.out S43.out)
        (case aL => have := HJ.out; simp only [List.length_singleton]; omega)
        intro v44 w44 ho hb hg hat
        obtain ⟨A44, c44, e44⟩ := Kd.R_slice ho
        subst e44
        rw [List.length_append, List.length_singleton] at ho
        have Q44 := Aside0.mk ho
        have hne := (fun k (e : some k = (Value.slice A9 nc.length c9).ownBlock) => Q43.out.1 k e.symm)
        have F44 := Aside0.mk (F43.out.grown hb hg (fun e => Nat.not_lt.mpr (hne _ e) LT30.out.1) (fun e => Nat.not_lt.mpr (hne _ e) LT30.out.2.1) (fun e => Nat.not_lt.mpr (hne _ e) LT30.out.2.2))
        have R44 := Aside0.mk (R43.out.grown hb G0.out)
        have O44 := Aside0.mk (Kd.R_grown O43.out hg (fun k hk e => Nat.not_lt.mpr (hne _ e) hk.2))
        have S44 := Aside0.mk (Nat.le_trans S43.out hg.size)
        clear ho hb hg hat hne
        have mc0 : w44.cell? ⟨gm, 0, none⟩ = some (.int .i64 kx) := (blk_cell F44.out.hm 0).trans rfl
        have mf0 := blk_frozen F44.out.hm 0
        have mc1 : w44.cell? ⟨gm, 1, none⟩ = some (.int .i64 ax) := (blk_cell F44.out.hm 1).trans rfl
        have mf1 := blk_frozen F44.out.hm 1
        have mc2 : w44.cell? ⟨gm, 2, none⟩ = some (.int .i64 bx) := (blk_cell F44.out.hm 2).trans rfl
        have mf2 := blk_frozen F44.out.hm 2
        have mc3 : w44.cell? ⟨gm, 3, none⟩ = some (.int .i64 cx) := (blk_cell F44.out.hm 3).trans rfl
        have mf3 := blk_frozen F44.out.hm 3
        have mc4 : w44.cell? ⟨gm, 4, none⟩ = some (.int .i64 dx) := (blk_cell F44.out.hm 4).trans rfl
        have mf4 := blk_frozen F44.out.hm 4
        have mc5 : w44.cell? ⟨gm, 5, none⟩ = some (.int .i64 fx) := (blk_cell F44.out.hm 5).trans rfl
        have mf5 := blk_frozen F44.out.hm 5
        have mc6 : w44.cell? ⟨gm, 6, none⟩ = some (.int .i64 hx) := (blk_cell F44.out.hm 6).trans rfl
        have mf6 := blk_frozen F44.out.hm 6
        have mc7 : w44.cell? ⟨gm, 7, none⟩ = some (.int .i64 am) := (blk_cell F44.out.hm 7).trans rfl
        have mf7 := blk_frozen F44.out.hm 7
        have mc8 : w44.cell? ⟨gm, 8, none⟩ = some (.bool ye) := (blk_cell F44.out.hm 8).trans rfl
        have mf8 := blk_frozen F44.out.hm 8
        have mc9 : w44.cell? ⟨gm, 9, none⟩ = some (.slice A8 acc.length c8) := (blk_cell F44.out.hm 9).trans rfl
        have mf9 := blk_frozen F44.out.hm 9
        have mc10 : w44.cell? ⟨gm, 10, none⟩ = some (.slice A9 nc.length c9) := (blk_cell F44.out.hm 10).trans rfl
        have mf10 := blk_frozen F44.out.hm 10
        refine hK.out _ _ ⟨(blk_cell (F44.out).hp 0).trans rfl, (blk_cell (F44.out).hm 10).trans rfl⟩ (fun hHeld => ?_)
        clear hK K
        refine norm_ (a' := ?_) ?_ ?_
        rotate_left
        · show Act.put _ (some 101) _ = _
          simp only [Act.put, List.setIfInBounds_toArray, List.set_cons_zero, List.set_cons_succ, i64_w, i32_w]
          rfl
        refine pure_ (i := 6) (N := some 102) (v := ?_) (a' := ?_) #[true, true, true, true, true, true, true, false] rfl rfl (by kernel_rfl) (fun _ _ _ h => h) (Or.inl ⟨by rfl, ?_⟩) ?_ ?_
        rotate_left
        · intro w'
          go_simp
          with_reducible rfl
        rotate_left
        · simp only [Act.put, List.setIfInBounds_toArray, List.set_cons_zero, List.set_cons_succ, i64_w, i32_w]
          rfl
        refine last_ (i := 7) (N := none) #[true, true, true, true, true, true, true, true] rfl rfl (by kernel_rfl) (by decide) (fun K hK => ?_)
        refine skip_ (w1 := ?_) (by rfl) rfl ?_ ?_
        rotate_left
        · go_simp
          rfl
        refine hK.out _ _ ?_
        clear hK K
        refine done_ (by kernel_rfl) ?_


        go_wp2_with fail
        go_roundg (gk - 1)
        case measure => have := HJ.out; omega
        case rel => exact ⟨i2, pn, en, nc ++ [nx], _, (by first | rw [b2] | rw [b3] | rw [b4] | rfl), ⟨by have := HJ.out; omega, HPX.out, by have := HJ.out; simp only [List.length_append, List.length_singleton]; omega⟩, HNX, ⟨R44.out.set (gx := gm) (by have := F44.out.ne; omega) 10 _⟩, ⟨F44.out.put 10 _ rfl⟩, ⟨Kd.R_kept O44.out ((Kept.refl w44 (fun k => k = gm)).setCell (p := ⟨gm, 10, none⟩) (.inl rfl) _) (fun k hk e => hk.1.2.2.2 e)⟩, ⟨Kd.R_kept Q44.out ((Kept.refl w44 (fun k => k = gm)).setCell (p := ⟨gm, 10, none⟩) (.inl rfl) _) (fun k hk e => by subst e; exact absurd LT30.out.2.2 (Nat.not_lt.mpr hk))⟩, ⟨by simpa [World.setCell] using S44.out⟩⟩
      have y5 : (eq == 0) = false := beq_eq_false_iff_ne.mpr hq
      have HNE := Aside0.mk (show netsF l nt (q1, f1) = (nc, pq, eq) by rw [HNS.out]; obtain ⟨i, rfl⟩ : ∃ i, j2 = i + 1 := ⟨j2 - 1, by omega⟩; simp [netsF, hq])
      clear hq hj2
      go_wp2_with fail
      refine (rd_Err R40.out (show code_Reader_Err.f l (pq : Int) eq = some (eq, (pq : Int), eq) from rfl)).mono ?_; rintro x w41 ⟨rfl, hR, hb, hk⟩; have F41 := Aside0.mk (F40.out.call hb hk); have R41 := Aside0.mk hR; have O41 := Aside0.mk (Kd.R_keep O40.out hk (fun k q e => by have := q.1.1; have := G0.out; omega)); have Q41 := Aside0.mk (Kd.R_keep Q40.out hk (fun k q e => by have := W30.out; have := G0.out; omega)); clear hR hb hk
      clear pc0
      have pc0 : w41.cell? ⟨gp, 0, none⟩ = some (.pointer (some ⟨g, 0, none⟩)) := (blk_cell F41.out.hp 0).trans rfl
      go_wp2_with fail
      refine (rd_Err R41.out (show code_Reader_Err.f l (pq : Int) eq = some (eq, (pq : Int), eq) from rfl)).mono ?_; rintro x w50 ⟨rfl, hR, hb, hk⟩; have F50 := Aside0.mk (F41.out.call hb hk); have R50 := Aside0.mk hR; have O50 := Aside0.mk (Kd.R_keep O41.out hk (fun k q e => by have := q.1.1; have := G0.out; omega)); have Q50 := Aside0.mk (Kd.R_keep Q41.out hk (fun k q e => by have := W30.out; have := G0.out; omega)); clear hR hb hk
      clear pc0
      by_cases hz : eq = 0
      · have z1 : (eq != 0) = false := bne_eq_false_iff_eq.mpr hz
        have HFR := Aside0.mk (show fromF l (p0, e0) = (⟨kx, ⟨ax, bx⟩, cx, dx, fx, hx, am, ye, acc, nc⟩, 0, pq, eq) by unfold fromF; simp only [HQ1.out, HQ2.out, HQ3.out, HQ4.out, HQ5.out, HQ6.out, HQ7.out, HQ8.out, HQ9.out, HQ10.out, Int.toNat_natCast, HLE.out, HQN.out, HNE.out]; rw [if_neg HOK.out, if_pos hz])
        clear hz
        have mc0 : w50.cell? ⟨gm, 0, none⟩ = some (.int .i64 kx) := (blk_cell F50.out.hm 0).trans rfl; have mf0 := blk_frozen F50.out.hm 0; have mc1 : w50.cell? ⟨gm, 1, none⟩ = some (.int .i64 ax) := (blk_cell F50.out.hm 1).trans rfl; have mf1 := blk_frozen F50.out.hm 1; have mc2 : w50.cell? ⟨gm, 2, none⟩ = some (.int .i64 bx) := (blk_cell F50.out.hm 2).trans rfl; have mf2 := blk_frozen F50.out.hm 2; have mc3 : w50.cell? ⟨gm, 3, none⟩ = some (.int .i64 cx) := (blk_cell F50.out.hm 3).trans rfl; have mf3 := blk_frozen F50.out.hm 3; have mc4 : w50.cell? ⟨gm, 4, none⟩ = some (.int .i64 dx) := (blk_cell F50.out.hm 4).trans rfl; have mf4 := blk_frozen F50.out.hm 4; have mc5 : w50.cell? ⟨gm, 5, none⟩ = some (.int .i64 fx) := (blk_cell F50.out.hm 5).trans rfl; have mf5 := blk_frozen F50.out.hm 5; have mc6 : w50.cell? ⟨gm, 6, none⟩ = some (.int .i64 hx) := (blk_cell F50.out.hm 6).trans rfl; have mf6 := blk_frozen F50.out.hm 6; have mc7 : w50.cell? ⟨gm, 7, none⟩ = some (.int .i64 am) := (blk_cell F50.out.hm 7).trans rfl; have mf7 := blk_frozen F50.out.hm 7; have mc8 : w50.cell? ⟨gm, 8, none⟩ = some (.bool ye) := (blk_cell F50.out.hm 8).trans rfl; have mf8 := blk_frozen F50.out.hm 8; have mc9 : w50.cell? ⟨gm, 9, none⟩ = some (.slice A8 acc.length c8) := (blk_cell F50.out.hm 9).trans rfl; have mf9 := blk_frozen F50.out.hm 9; have mc10 : w50.cell? ⟨gm, 10, none⟩ = some (.slice A9 nc.length c9) := (blk_cell F50.out.hm 10).trans rfl; have mf10 := blk_frozen F50.out.hm 10
        have rc0 : w50.cell? ⟨gr, 0, none⟩ = some (.int .i64 0) := (blk_cell F50.out.hr 0).trans rfl; have rf0 := blk_frozen F50.out.hr 0; have rc1 : w50.cell? ⟨gr, 1, none⟩ = some (.int .i64 0) := (blk_cell F50.out.hr 1).trans rfl; have rf1 := blk_frozen F50.out.hr 1; have rc2 : w50.cell? ⟨gr, 2, none⟩ = some (.int .i64 0) := (blk_cell F50.out.hr 2).trans rfl; have rf2 := blk_frozen F50.out.hr 2; have rc3 : w50.cell? ⟨gr, 3, none⟩ = some (.int .i64 0) := (blk_cell F50.out.hr 3).trans rfl; have rf3 := blk_frozen F50.out.hr 3; have rc4 : w50.cell? ⟨gr, 4, none⟩ = some (.int .i64 0) := (blk_cell F50.out.hr 4).trans rfl; have rf4 := blk_frozen F50.out.hr 4; have rc5 : w50.cell? ⟨gr, 5, none⟩ = some (.int .i64 0) := (blk_cell F50.out.hr 5).trans rfl; have rf5 := blk_frozen F50.out.hr 5; have rc6 : w50.cell? ⟨gr, 6, none⟩ = some (.int .i64 0) := (blk_cell F50.out.hr 6).trans rfl; have rf6 := blk_frozen F50.out.hr 6; have rc7 : w50.cell? ⟨gr, 7, none⟩ = some (.int .i64 0) := (blk_cell F50.out.hr 7).trans rfl; have rf7 := blk_frozen F50.out.hr 7; have rc8 : w50.cell? ⟨gr, 8, none⟩ = some (.bool false) := (blk_cell F50.out.hr 8).trans rfl; have rf8 := blk_frozen F50.out.hr 8; have rc9 : w50.cell? ⟨gr, 9, none⟩ = some (.slice none 0 0) := (blk_cell F50.out.hr 9).trans rfl; have rf9 := blk_frozen F50.out.hr 9; have rc10 : w50.cell? ⟨gr, 10, none⟩ = some (.slice none 0 0) := (blk_cell F50.out.hr 10).trans rfl; have rf10 := blk_frozen F50.out.hr 10
        go_wp2_with fail
        refine bodyPost_ret (results_ct rfl _ _ gr 28 #[.int .i64 kx, .int .i64 ax, .int .i64 bx, .int .i64 cx, .int .i64 dx, .int .i64 fx, .int .i64 hx, .int .i64 am, .bool ye, .slice A8 acc.length c8, .slice A9 nc.length c9] (0, 0) _ rfl (set11_blk F50.out.hr (.int .i64 kx) (.int .i64 ax) (.int .i64 bx) (.int .i64 cx) (.int .i64 dx) (.int .i64 fx) (.int .i64 hx) (.int .i64 am) (.bool ye) (.slice A8 acc.length c8) (.slice A9 nc.length c9)) Try.underlying28 rfl (by kernel_rfl)) rfl ?_
        rw [HFR.out]
        exact ⟨set11_far (g := gr) F50.out.keep (by have := F50.out.ne; omega) (.int .i64 kx) (.int .i64 ax) (.int .i64 bx) (.int .i64 cx) (.int .i64 dx) (.int .i64 fx) (.int .i64 hx) (.int .i64 am) (.bool ye) (.slice A8 acc.length c8) (.slice A9 nc.length c9), set11_below (g := gr) F50.out.bel (by have := F50.out.ne; omega) (.int .i64 kx) (.int .i64 ax) (.int .i64 bx) (.int .i64 cx) (.int .i64 dx) (.int .i64 fx) (.int .i64 hx) (.int .i64 am) (.bool ye) (.slice A8 acc.length c8) (.slice A9 nc.length c9), R50.out.kept (set11_kept w50 gr (.int .i64 kx) (.int .i64 ax) (.int .i64 bx) (.int .i64 cx) (.int .i64 dx) (.int .i64 fx) (.int .i64 hx) (.int .i64 am) (.bool ye) (.slice A8 acc.length c8) (.slice A9 nc.length c9)) (fun k hk => by subst hk; have := F50.out.ne; exact ⟨by omega, .inl (by omega)⟩), _, _, rfl, Kd.R_mono (Kd.R_kept O50.out (set11_kept w50 gr (.int .i64 kx) (.int .i64 ax) (.int .i64 bx) (.int .i64 cx) (.int .i64 dx) (.int .i64 fx) (.int .i64 hx) (.int .i64 am) (.bool ye) (.slice A8 acc.length c8) (.slice A9 nc.length c9)) (fun k hk e => hk.1.2.2.1 e)) (fun _ _ => trivial), Kd.R_mono (Kd.R_kept Q50.out (set11_kept w50 gr (.int .i64 kx) (.int .i64 ax) (.int .i64 bx) (.int .i64 cx) (.int .i64 dx) (.int .i64 fx) (.int .i64 hx) (.int .i64 am) (.bool ye) (.slice A8 acc.length c8) (.slice A9 nc.length c9)) (fun k hk e => by subst e; exact absurd LT30.out.2.1 (Nat.not_lt.mpr hk))) (fun k hk e => absurd (O50.out.1 k e.symm).2 (Nat.not_lt.mpr hk))⟩
      have z1 : (eq != 0) = true := bne_iff_ne.mpr hz
      have HFR := Aside0.mk (show fromF l (p0, e0) = (z28, eq, pq, eq) by unfold fromF; simp only [HQ1.out, HQ2.out, HQ3.out, HQ4.out, HQ5.out, HQ6.out, HQ7.out, HQ8.out, HQ9.out, HQ10.out, Int.toNat_natCast, HLE.out, HQN.out, HNE.out]; rw [if_neg HOK.out, if_neg hz])
      clear hz
      have rc0 : w50.cell? ⟨gr, 0, none⟩ = some (.int .i64 0) := (blk_cell F50.out.hr 0).trans rfl; have rf0 := blk_frozen F50.out.hr 0; have rc1 : w50.cell? ⟨gr, 1, none⟩ = some (.int .i64 0) := (blk_cell F50.out.hr 1).trans rfl; have rf1 := blk_frozen F50.out.hr 1; have rc2 : w50.cell? ⟨gr, 2, none⟩ = some (.int .i64 0) := (blk_cell F50.out.hr 2).trans rfl; have rf2 := blk_frozen F50.out.hr 2; have rc3 : w50.cell? ⟨gr, 3, none⟩ = some (.int .i64 0) := (blk_cell F50.out.hr 3).trans rfl; have rf3 := blk_frozen F50.out.hr 3; have rc4 : w50.cell? ⟨gr, 4, none⟩ = some (.int .i64 0) := (blk_cell F50.out.hr 4).trans rfl; have rf4 := blk_frozen F50.out.hr 4; have rc5 : w50.cell? ⟨gr, 5, none⟩ = some (.int .i64 0) := (blk_cell F50.out.hr 5).trans rfl; have rf5 := blk_frozen F50.out.hr 5; have rc6 : w50.cell? ⟨gr, 6, none⟩ = some (.int .i64 0) := (blk_cell F50.out.hr 6).trans rfl; have rf6 := blk_frozen F50.out.hr 6; have rc7 : w50.cell? ⟨gr, 7, none⟩ = some (.int .i64 0) := (blk_cell F50.out.hr 7).trans rfl; have rf7 := blk_frozen F50.out.hr 7; have rc8 : w50.cell? ⟨gr, 8, none⟩ = some (.bool false) := (blk_cell F50.out.hr 8).trans rfl; have rf8 := blk_frozen F50.out.hr 8; have rc9 : w50.cell? ⟨gr, 9, none⟩ = some (.slice none 0 0) := (blk_cell F50.out.hr 9).trans rfl; have rf9 := blk_frozen F50.out.hr 9; have rc10 : w50.cell? ⟨gr, 10, none⟩ = some (.slice none 0 0) := (blk_cell F50.out.hr 10).trans rfl; have rf10 := blk_frozen F50.out.hr 10
      go_wp2_with fail
      refine bodyPost_ret (results_ct rfl _ _ gr 28 #[.int .i64 0, .int .i64 0, .int .i64 0, .int .i64 0, .int .i64 0, .int .i64 0, .int .i64 0, .int .i64 0, .bool false, .slice none 0 0, .slice none 0 0] (0, 0) _ rfl (set11_blk F50.out.hr (.int .i64 0) (.int .i64 0) (.int .i64 0) (.int .i64 0) (.int .i64 0) (.int .i64 0) (.int .i64 0) (.int .i64 0) (.bool false) (.slice none 0 0) (.slice none 0 0)) Try.underlying28 rfl (by kernel_rfl)) rfl ?_
      rw [HFR.out]
      refine ⟨set11_far (g := gr) F50.out.keep (by have := F50.out.ne; omega) (.int .i64 0) (.int .i64 0) (.int .i64 0) (.int .i64 0) (.int .i64 0) (.int .i64 0) (.int .i64 0) (.int .i64 0) (.bool false) (.slice none 0 0) (.slice none 0 0), set11_below (g := gr) F50.out.bel (by have := F50.out.ne; omega) (.int .i64 0) (.int .i64 0) (.int .i64 0) (.int .i64 0) (.int .i64 0) (.int .i64 0) (.int .i64 0) (.int .i64 0) (.bool false) (.slice none 0 0) (.slice none 0 0), R50.out.kept (set11_kept w50 gr (.int .i64 0) (.int .i64 0) (.int .i64 0) (.int .i64 0) (.int .i64 0) (.int .i64 0) (.int .i64 0) (.int .i64 0) (.bool false) (.slice none 0 0) (.slice none 0 0)) (fun k hk => by subst hk; have := F50.out.ne; exact ⟨by omega, .inl (by omega)⟩), .slice none 0 0, .slice none 0 0, rfl, Kd.R_nil _ _ _ _ _, Kd.R_nil _ _ _ _ _⟩
end Go.Proofs.Ytgmfafmefafiiaa.M
