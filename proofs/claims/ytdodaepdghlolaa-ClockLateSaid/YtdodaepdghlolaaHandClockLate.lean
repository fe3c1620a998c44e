/-
  ClockLate, walked by hand: nothing is told early, and nothing is forgotten.
-/
import Derived.Test.YtdodaepdghlolaaHTicks
import Derived.Test.YtdodaepdghlolaaRowClockLate
namespace Go.Proofs.Ytdodaepdghlolaa.Pure.Clk
open Go.RowKit Go.Proofs.Ytdodaepdghlolaa.M Go.Proofs.YtdodaepdghlolaaW.PrintWords Go.Proofs.YtdodaepdghlolaaW.PrintLast Go.Proofs.YtdodaepdghlolaaW.PrintMore Go.Proofs.Ytdodaepdghlolaa.Pure
set_option linter.unusedVariables false
set_option linter.unusedSimpArgs false
open Go.Maps (Keyed)
theorem nkP {i n gk : Nat} (hi : i < n) (h : i ≤ n ∧ i + gk = n + 1) : (i + 1 ≤ n ∧ i + 1 + (gk - 1) = n + 1) ∧ 0 < gk := by omega
/-- what is told of the clock -/
structure St (i : Nat) (now turns : Int) (d : List Du) : Prop where
  hnow : 0 ≤ now ∧ now ≤ (i : Int)
  hturns : 0 ≤ turns ∧ turns ≤ (i : Int)
  hlen : d.length ≤ i
  hsoon : ∀ x ∈ d, now < x.at_
theorem St.up {i : Nat} {now turns : Int} {d : List Du} (h : St i now turns d) : St (i + 1) now turns d := ⟨⟨h.hnow.1, by have := h.hnow; omega⟩, ⟨h.hturns.1, by have := h.hturns; omega⟩, by have := h.hlen; omega, h.hsoon⟩
theorem St.set {i : Nat} {now turns : Int} {d : List Du} (h : St i now turns d) (s : ByteArray) {a : Int} (ha : now < a) (b : Nat) : St (i + 1) now (turns + 1) (but d s ++ [⟨s, a, turns + 1, b⟩]) :=
  ⟨⟨h.hnow.1, by have := h.hnow; omega⟩, ⟨by have := h.hturns; omega, by have := h.hturns; omega⟩, by have := h.hlen; have : (but d s).length ≤ d.length := List.length_filter_le _ _; simp; omega, fun x hx => by
    rcases List.mem_append.1 hx with hx | hx
    · exact h.hsoon x (List.mem_filter.1 hx).1
    · rw [List.mem_singleton.1 hx]; exact ha⟩
theorem St.drop {i : Nat} {now turns : Int} {d : List Du} (h : St i now turns d) (s : ByteArray) : St (i + 1) now turns (but d s) :=
  ⟨⟨h.hnow.1, by have := h.hnow; omega⟩, ⟨h.hturns.1, by have := h.hturns; omega⟩, by have := h.hlen; have : (but d s).length ≤ d.length := List.length_filter_le _ _; omega, fun x hx => h.hsoon x (List.mem_filter.1 hx).1⟩
theorem St.tick {i : Nat} {now turns : Int} {d : List Du} (h : St i now turns d) : St (i + 1) (now + 1) turns (late d (now + 1)) :=
  ⟨⟨by have := h.hnow; omega, by have := h.hnow; omega⟩, ⟨h.hturns.1, by have := h.hturns; omega⟩, by have := h.hlen; have : (late d (now + 1)).length ≤ d.length := List.length_filter_le _ _; omega, fun x hx => by have := (List.mem_filter.1 hx).2; simpa using this⟩
theorem Ck.names {N : Nat} {P : Nat → Prop} {w : World} {g : Nat} {now turns : Int} {d : List Du} (h : Ck N P w g now turns d) : (d.map Du.nm).Nodup := by
  obtain ⟨m, q, A, c, D, h⟩ := h
  exact h.good.names
theorem Ck.sizeP {N : Nat} {P : Nat → Prop} {w : World} {g : Nat} {now turns : Int} {d : List Du} (h : Ck N P w g now turns d) : N ≤ w.heap.size := by
  obtain ⟨m, q, A, c, D, h⟩ := h
  exact h.isq.size
noncomputable abbrev RI : Value → Option (DW × List MemPlace) := plainElem Try.prog 3
theorem RI_mk {a : Int} (h : wrap64 a = a) : RI (.int .i64 a) = some (.lit (.int .i64 a), []) := plainElem_int Try.underlying3 (by have := wrap64_wf a; rwa [h] at this)
theorem RI_inv {v : Value} {z : DW × List MemPlace} (h : RI v = some z) : ∃ a, v = .int .i64 a ∧ z = (.lit (.int .i64 a), []) := by
  obtain ⟨a, h1, h2, -⟩ := plainElem_int_inv Try.underlying3 h
  exact ⟨a, h1, h2⟩
theorem zero3 (w : World) : (zeroValue 3).run Try.prog w = .ok (.int .i64 0) w := by go_simp
/-- the map of who is due when -/
structure DueOK (D : DW) (d : List Du) : Prop where
  tidy : Maps.Tidy D
  size : Maps.size D = d.length
  has : ∀ s, Maps.has D (kl s) = d.any (fun x => decide (x.nm = s))
  get : ∀ x ∈ d, ∀ z, D.atKey (kl x.nm) z = .lit (.int .i64 x.at_)
theorem DueOK.empty : DueOK (.map []) [] := ⟨Maps.tidy_empty, rfl, fun s => rfl, fun x hx => by cases hx⟩
theorem DueOK.put {D : DW} {d : List Du} (h : DueOK D d) (hn : (d.map Du.nm).Nodup) (s : ByteArray) (a t : Int) (b : Nat) : DueOK (D.put (kl s) (.lit (.int .i64 a))) (but d s ++ [⟨s, a, t, b⟩]) := by
  refine ⟨h.tidy.put (kl_key _) _, ?_, fun s' => ?_, fun y hy z => ?_⟩
  · rw [Maps.size_put h.tidy, h.has, h.size, List.length_append, List.length_singleton]
    by_cases hx : ∃ x ∈ d, x.nm = s
    · obtain ⟨x, hx, rfl⟩ := hx
      rw [any_yes hx, if_pos rfl, but_len hx hn]
    · have hno : ∀ x ∈ d, x.nm ≠ s := fun x h1 h2 => hx ⟨x, h1, h2⟩
      rw [any_no hno, but_self hno]; rfl
  · rw [List.any_append]
    by_cases e : s' = s
    · subst e
      rw [Maps.has_put_same h.tidy.isMap (kl_key _)]
      simp
    · rw [Maps.has_put_other (fun e2 => e (kl_inj e2)), h.has, but_any d e]
      have : decide (s = s') = false := decide_eq_false (fun e2 => e e2.symm)
      simp [this]
  · rcases List.mem_append.1 hy with hy | hy
    · have hy2 := List.mem_filter.1 hy
      rw [Maps.atKey_put_other (fun e2 => by have := hy2.2; simp at this; exact this (kl_inj e2))]
      exact h.get y hy2.1 z
    · rw [List.mem_singleton] at hy
      subst hy
      exact Maps.atKey_put_same h.tidy.isMap (kl_key _) _ _
theorem DueOK.del {D : DW} {d : List Du} (h : DueOK D d) (hn : (d.map Du.nm).Nodup) {x : Du} (hx : x ∈ d) : DueOK (D.del (kl x.nm)) (but d x.nm) := by
  have h0 : Maps.has D (kl x.nm) = true := (h.has _).trans (any_yes hx)
  refine ⟨h.tidy.del _, ?_, fun s => ?_, fun y hy z => ?_⟩
  · have h1 := Maps.size_del (k := kl x.nm) h.tidy
    rw [h0] at h1
    have h2 := but_len hx hn
    have h3 := h.size
    simp at h1
    omega
  · by_cases e : s = x.nm
    · subst e
      rw [Maps.has_del_same]
      exact (any_no (fun y hy => by simpa using (List.mem_filter.1 hy).2)).symm
    · rw [Maps.has_del_other (fun e2 => e (kl_inj e2)), h.has]
      exact (but_any d e).symm
  · have hy2 := List.mem_filter.1 hy
    rw [Maps.atKey_del_other (fun e2 => by have := hy2.2; simp at this; exact this (kl_inj e2))]
    exact h.get y hy2.1 z
theorem tightI {w : World} {m n : Nat} {D : DW} (h : w.ownsMap Try.prog 9 RI m n D) : w.ownsMap Try.prog 9 RI m (Maps.size D) D := by
  obtain ⟨es, clock, hb, F, hs, rfl⟩ := h
  exact ⟨es, clock, hb, F, by simp [Maps.size, length_sorted], rfl⟩
theorem _root_.Go.World.ranges.below_ {w w' : World} {R : Value → Option (DW × List MemPlace)} {b r n : Nat} {D : DW} {left : Lit → Bool} {cnt : Nat} (h : w.ranges Try.prog 9 R b r n D left cnt) (hb : Below w.heap.size w w') : w'.ranges Try.prog 9 R b r n D left cnt := by
  obtain ⟨es, clock, since, seen, c0, h1, h2, h3, h4, h5, h6⟩ := h
  exact ⟨es, clock, since, seen, c0, (hb.block b (Array.getElem?_eq_some_iff.1 h1).1).trans h1, h2, h3, h4, (hb.block r (Array.getElem?_eq_some_iff.1 h5).1).trans h5, h6⟩
theorem blk_lt_ {w : World} {R : Value → Option (DW × List MemPlace)} {b r n : Nat} {D : DW} {left : Lit → Bool} {cnt : Nat} (h : w.ranges Try.prog 9 R b r n D left cnt) : r < w.heap.size := by
  obtain ⟨es, clock, since, seen, c0, h1, h2, h3, h4, h5, h6⟩ := h
  exact (Array.getElem?_eq_some_iff.1 h5).1
structure IsDue (w : World) (mb : Nat) (d : List Du) (D : DW) : Prop where
  own : w.ownsMap Try.prog 9 RI mb d.length D
  ok : DueOK D d
theorem IsDue.of {w : World} {mb n : Nat} {d : List Du} {D : DW} (h : w.ownsMap Try.prog 9 RI mb n D) (ok : DueOK D d) : IsDue w mb d D := ⟨by have := tightI h; rwa [ok.size] at this, ok⟩
theorem IsDue.keep {w w' : World} {mb : Nat} {d : List Du} {D : DW} (h : IsDue w mb d D) (e : w'.heap[mb]? = w.heap[mb]?) : IsDue w' mb d D := by
  obtain ⟨⟨es, clock, hb, r⟩, ok⟩ := h
  exact ⟨⟨es, clock, e.trans hb, r⟩, ok⟩
theorem IsDue.lt {w : World} {mb : Nat} {d : List Du} {D : DW} (h : IsDue w mb d D) : mb < w.heap.size := by
  obtain ⟨es, clock, hb, _⟩ := h.own
  exact (Array.getElem?_eq_some_iff.1 hb).1
theorem due_yes {w : World} {mb : Nat} {d : List Du} {D : DW} (h : IsDue w mb d D) {x : Du} (hx : x ∈ d) (hs : x.nm.size ≤ 9223372036854775807) : (Instr.lookup 53 (.map (some mb)) (.string x.nm) true).run Try.prog w = .ok (.tuple #[.int .i64 x.at_, .bool true]) w := by
  obtain ⟨v, ps, hr, hv⟩ := h.own.look_ok key9 Try.underlying53 (zero3 w) (zd := .lit (.int .i64 0)) (zp := []) (RI_mk (by unfold wrap64; omega)) (keyOf9 hs)
  rw [h.ok.get x hx] at hv
  obtain ⟨a, rfl, e⟩ := RI_inv hv
  injection e with e _
  injection e with e
  injection e with _ e
  rw [(h.ok.has _).trans (any_yes hx), ← e] at hr
  exact hr
/-- what is left behind the first j that are told -/
def dj (d S : List Du) (j : Nat) : List Du := d.filter (fun x => decide (∀ n ∈ (S.take j).map Du.nm, n ≠ x.nm))
theorem dj_zero (d S : List Du) : dj d S 0 = d := List.filter_eq_self.2 (fun x hx => by simp)
theorem dj_next {d S : List Du} {j : Nat} (hj : j < S.length) : but (dj d S j) (nth S j).nm = dj d S (j + 1) := by
  unfold but dj
  rw [List.filter_filter, nth_eq hj, List.take_succ_eq_append_getElem hj]
  apply List.filter_congr
  intro x hx
  rw [← Bool.decide_and, decide_eq_decide]
  constructor
  · rintro ⟨h1, h2⟩ n hn
    rw [List.map_append, List.mem_append] at hn
    rcases hn with hn | hn
    · exact h2 n hn
    · rw [List.map_cons, List.map_nil, List.mem_singleton] at hn
      rw [hn]; exact fun e => h1 e.symm
  · intro h
    exact ⟨fun e => h S[j].nm (by rw [List.map_append]; exact List.mem_append_right _ (by simp)) e.symm, fun n hn => h n (by rw [List.map_append]; exact List.mem_append_left _ hn)⟩
theorem dj_mem {d : List Du} {t : Int} (hn : (d.map Du.nm).Nodup) {j : Nat} (hj : j < (soon d t).length) : nth (soon d t) j ∈ dj d (soon d t) j := by
  refine List.mem_filter.2 ⟨(List.mem_filter.1 (nth_mem hj)).1, decide_eq_true (fun n h e => ?_)⟩
  have hs : ((soon d t).map Du.nm).Nodup := hn.sublist (List.Sublist.map _ List.filter_sublist)
  have e2 : soon d t = (soon d t).take j ++ nth (soon d t) j :: (soon d t).drop (j + 1) := by rw [nth_eq hj, List.getElem_cons_drop, List.take_append_drop]
  rw [e2, List.map_append, List.map_cons, List.nodup_append] at hs
  exact hs.2.2 _ h _ (by simp) e
theorem dj_end {d : List Du} {t : Int} (hn : (d.map Du.nm).Nodup) : dj d (soon d t) (soon d t).length = late d t := by
  unfold dj late
  apply List.filter_congr
  intro x hx
  rw [decide_eq_decide, List.take_length]
  constructor
  · intro h
    by_cases e : t < x.at_
    · exact e
    · exact absurd rfl (h x.nm (List.mem_map_of_mem (List.mem_filter.2 ⟨hx, by simp; omega⟩)))
  · intro h n h2 e
    obtain ⟨y, hy, e2⟩ := List.mem_map.1 h2
    have h3 := List.mem_filter.1 hy
    have := name_inj hn h3.1 hx (e2.trans e)
    subst this
    have := h3.2
    simp at this
    omega
theorem dj_nodup {d : List Du} (S : List Du) (j : Nat) (hn : (d.map Du.nm).Nodup) : ((dj d S j).map Du.nm).Nodup := hn.sublist (List.Sublist.map _ List.filter_sublist)
theorem Ck.szs {N : Nat} {P : Nat → Prop} {w : World} {g : Nat} {now turns : Int} {d : List Du} (h : Ck N P w g now turns d) {x : Du} (hx : x ∈ d) : x.nm.size ≤ 9223372036854775807 := by
  obtain ⟨m, q, A, c, D, h⟩ := h
  exact (h.good.all x hx).2.2.2.2
theorem soon_at {d : List Du} {now : Int} (hs : ∀ x ∈ d, now < x.at_) {x : Du} (hx : x ∈ soon d (now + 1)) : x.at_ = now + 1 := by
  have h1 := List.mem_filter.1 hx
  have := hs x h1.1
  have := h1.2
  simp at this
  omega
end Go.Proofs.Ytdodaepdghlolaa.Pure.Clk
namespace Go.Proofs.Ytdodaepdghlolaa.Pure
open Go.RowKit Go.Proofs.Ytdodaepdghlolaa.M Go.Proofs.YtdodaepdghlolaaW.PrintWords Go.Proofs.YtdodaepdghlolaaW.PrintLast Go.Proofs.YtdodaepdghlolaaW.PrintMore Go.Proofs.Ytdodaepdghlolaa.Pure
set_option linter.unusedVariables false
set_option linter.unusedSimpArgs false
open Clk Go.Maps
set_option maxHeartbeats 32000000 in
set_option maxRecDepth 100000 in
theorem ClockLate_hand (A0 : Option Addr) (c0 : Nat) (l0 : List S41) (w : World) (hr : Kd.C k41 w A0 l0.length l0) (hc : l0.length ≤ c0) (g0 : l0.length * 32 ≤ 140737488351232 ∧ ∀ x ∈ l0, G41 x) :
    Calls Try.prog 7 #[.slice A0 l0.length c0] w fun e w' => e = .returned (.bool true) ∧ Below w.heap.size w w' := by
  have HR := Aside0.mk hr; have HG := Aside0.mk g0.2
  clear hr hc g0
  go_enter Try.func7, Try.ntmps7
  go_wp2_with fail
  refine (ticks_calls w).mono ?_
  rintro x w1 ⟨rfl, hb⟩
  have B1 := Aside0.mk hb
  clear hb
  by_cases hu : l0.length > 80
  · have d1 : decide (80 < (l0.length : Int)) = true := decide_eq_true (by omega)
    have d2 : decide (80 < l0.length) = true := decide_eq_true hu
    have d3 : (80 < l0.length) = True := eq_true hu
    clear hu
    go_wp2_with fail
    go_ret
    exact ⟨rfl, B1.out⟩
  have u1 : decide (80 < (l0.length : Int)) = false := decide_eq_false (by omega)
  have u2 : decide (80 < l0.length) = false := decide_eq_false hu
  have u3 : (80 < l0.length) = False := eq_false hu
  have H100 := Aside0.mk (show l0.length ≤ 80 by omega)
  clear hu
  go_wp2_with fail
  refine (new_calls w1).mono ?_
  rintro x w2 ⟨⟨g, rfl, hC⟩, hb⟩
  have hmk : (Instr.makeMap 53 none).run Try.prog w2 = .ok (.map (some w2.heap.size)) (w2.alloc (.map #[] 0)) := run_makeMap 53 w2
  have C3 := Aside0.mk (hC.bnd.below (below_alloc (Below.refl w2.heap.size w2) (.map #[] 0)))
  have M3 := Aside0.mk (show IsDue (w2.alloc (.map #[] 0)) w2.heap.size [] (.map []) from ⟨World.ownsMap_made w2 Try.prog 9 RI, DueOK.empty⟩)
  have B3 := Aside0.mk (below_step hb (below_alloc (Below.refl w2.heap.size w2) (.map #[] 0)))
  have P3 := Aside0.mk (show ¬(w1.heap.size ≤ w2.heap.size ∧ w2.heap.size < w2.heap.size) from fun h => Nat.lt_irrefl _ h.2)
  have GM := Aside0.mk hb.size
  clear hC hb u1 u2 u3
  generalize w2.alloc (.map #[] 0) = w3 at hmk C3 M3 B3
  obtain ⟨mb, hmb⟩ : ∃ mb, mb = w2.heap.size := ⟨_, rfl⟩
  rw [← hmb] at hmk M3 P3 GM
  have HMB := Aside0.mk hmb
  clear hmb
  go_wp2_with fail
  clear hmk
  go_loopg [24] (l0.length + 1) (fun kq v24 w' => ∃ (i : Nat) (d : List Du) (now turns : Int) (P : Nat → Prop) (D : DW), v24 = .int .i64 (i : Int) ∧ Aside0 (i ≤ l0.length ∧ i + kq = l0.length + 1) ∧ Aside0 (Ck w1.heap.size P w' g now turns d) ∧ Aside0 (IsDue w' mb d D) ∧ Aside0 (¬P mb) ∧ Aside0 (St i now turns d) ∧ Aside0 (Below w1.heap.size w1 w'))
  case atStart => exact ⟨0, [], 0, 0, _, _, rfl, ⟨by omega, by omega⟩, C3, M3, ⟨fun h => by have := HMB.out; have := h.2; omega⟩, ⟨⟨by decide, by decide⟩, ⟨by decide, by decide⟩, by decide, fun x hx => by cases hx⟩, B3⟩
  case round =>
    clear C3 M3 P3 B3
    obtain ⟨i, d, now, turns, P, D, rfl, HI, CC, M3, HP, HST, B3⟩ := hrel
    generalize wr = w3 at CC M3 B3 ⊢
    by_cases hi : i < l0.length
    rotate_left
    · have d1 : decide ((i : Int) < (l0.length : Int)) = false := decide_eq_false (by omega)
      have d2 : decide (i < l0.length) = false := decide_eq_false hi
      have d3 : (i < l0.length) = False := eq_false hi
      clear hi
      go_wp2_with fail
      go_ret
      exact ⟨rfl, below_step B1.out B3.out⟩
    have d1 : decide ((i : Int) < (l0.length : Int)) = true := decide_eq_true (by omega)
    have d2 : decide (i < l0.length) = true := decide_eq_true hi
    have d3 : (i < l0.length) = True := eq_true hi
    have hi0 : (0 : Int) ≤ (i : Int) := by omega
    have hi1 : (i : Int) < (l0.length : Int) := by omega
    obtain ⟨ad0, ea, x0, x1, x2⟩ := at_T41 (Kd.C_below HR.out (below_step B1.out B3.out)) (i : Int) hi0 hi1
    subst ea
    obtain ⟨kd, hkd⟩ : ∃ z, z = (rd_T41 l0 (i : Int)).f0 := ⟨_, rfl⟩
    obtain ⟨lt, hlt⟩ : ∃ z, z = (rd_T41 l0 (i : Int)).f1 := ⟨_, rfl⟩
    obtain ⟨s, hs⟩ : ∃ z, z = (rd_T41 l0 (i : Int)).f2 := ⟨_, rfl⟩
    rw [← hkd] at x0
    rw [← hlt] at x1
    rw [← hs] at x2
    rw [Int.toNat_natCast] at x0 x1 x2
    have HSZ := Aside0.mk (show s.size ≤ 9223372036854775807 from by
      have := HG.out (rd_T41 l0 (i : Int)) (by unfold rd_T41; rw [Int.toNat_natCast, List.getD_eq_getElem?_getD, List.getElem?_eq_getElem hi]; exact List.getElem_mem hi)
      rw [hs]; exact Nat.le_trans this.2.2 (by decide))
    have b2_ : wrap64 ((i : Int) + 1) = ((i + 1 : Nat) : Int) := by have := H100.out; unfold wrap64; omega
    have q1 := eq_true hi0; have q2 := eq_true hi1; have q3 : decide ((0 : Int) ≤ (i : Int)) = true := decide_eq_true hi0
    have NK := Aside0.mk (nkP hi HI.out)
    have HIL := Aside0.mk (show i < 80 by have := H100.out; omega)
    clear hi hi0 hi1 hkd hlt hs
    go_upto_region 10 with (first | ((with_reducible refine gate_dst (N := 6) rfl ?_); refine box_event ?hg (N := 6) ?hd (cs := #[.int .i64 0, .int .i64 0, .string ⟨#[]⟩]) (t := 41) ?hr ?_; (case hd => rfl); (case hg => rfl); (case hr => first | (go_simp; done) | (go_simp; rfl)); intro g8 hg w4m hbox hb; have ZB := Aside0.mk hb; have ZX := Aside0.mk hbox; have E4g := Aside0.mk (show w3.heap.size ≤ g8 from by rw [hg]; exact Nat.le_refl _); have o_zc0 : w4m.cell? ⟨g8, 0, none⟩ = some (.int .i64 0) := (blk_cell ZX.out 0).trans rfl; have o_zf0 := blk_frozen ZX.out 0; have o_zc1 : w4m.cell? ⟨g8, 1, none⟩ = some (.int .i64 0) := (blk_cell ZX.out 1).trans rfl; have o_zf1 := blk_frozen ZX.out 1; have o_zc2 : w4m.cell? ⟨g8, 2, none⟩ = some (.string ⟨#[]⟩) := (blk_cell ZX.out 2).trans rfl; have o_zf2 := blk_frozen ZX.out 2; clear hb hg hbox))
    have NB4 := Aside0.mk (below_setB (below_setB (below_setB ZB.out (p := ⟨g8, 0, none⟩) E4g.out (.int .i64 kd)) (p := ⟨g8, 1, none⟩) E4g.out (.int .i64 lt)) (p := ⟨g8, 2, none⟩) E4g.out (.string s)); have E4 := Aside0.mk (blk_put (blk_put (blk_put ZX.out 0 (.int .i64 kd) (cs' := #[.int .i64 kd, .int .i64 0, .string ⟨#[]⟩]) rfl) 1 (.int .i64 lt) (cs' := #[.int .i64 kd, .int .i64 lt, .string ⟨#[]⟩]) rfl) 2 (.string s) (cs' := #[.int .i64 kd, .int .i64 lt, .string s]) rfl); clear ZB ZX o_zc0 o_zf0 o_zc1 o_zf1 o_zc2 o_zf2; generalize (((w4m.setCell ⟨g8, 0, none⟩ (.int .i64 kd)).setCell ⟨g8, 1, none⟩ (.int .i64 lt)).setCell ⟨g8, 2, none⟩ (.string s)) = w4 at NB4 E4 ⊢; have C4 := Aside0.mk (CC.out.bnd.below NB4.out); have M4 := Aside0.mk (M3.out.keep (NB4.out.block mb M3.out.lt)); have B4 := Aside0.mk (below_step B3.out NB4.out)
    have HP4 := Aside0.mk (show ¬(fun k => P k ∧ k < w3.heap.size) mb from fun h => HP.out h.1); have HPL := Aside0.mk (show ∀ k, (fun k => P k ∧ k < w3.heap.size) k → k < w3.heap.size from fun k h => h.2); have HE8 := Aside0.mk (show ¬(fun k => P k ∧ k < w3.heap.size) g8 from fun h => Nat.not_lt.mpr E4g.out h.2)
    clear CC M3 HP B3 NB4 E4g x0 x1 x2 q1 q2 q3
    generalize (fun k => P k ∧ k < w3.heap.size) = P4 at C4 HP4 HPL HE8
    have ec0 : w4.cell? ⟨g8, 0, none⟩ = some (.int .i64 kd) := (blk_cell E4.out 0).trans rfl; have ef0 := blk_frozen E4.out 0; have ec1 : w4.cell? ⟨g8, 1, none⟩ = some (.int .i64 lt) := (blk_cell E4.out 1).trans rfl; have ef1 := blk_frozen E4.out 1; have ec2 : w4.cell? ⟨g8, 2, none⟩ = some (.string s) := (blk_cell E4.out 2).trans rfl; have ef2 := blk_frozen E4.out 2
    by_cases hk0 : kd = 0
    · subst hk0
      by_cases hbad : lt < 1 ∨ 1099511627776 - now < lt
      · have HBD := Aside0.mk hbad
        clear hbad
        go_wp2_with fail
        refine (set_bad C4.out HBD.out).mono ?_
        rintro y w8 ⟨rfl, hb⟩
        have C8 := Aside0.mk (C4.out.below hb); have M8 := Aside0.mk (M4.out.keep (hb.block mb M4.out.lt)); have B8 := Aside0.mk (below_step B4.out hb); have HP8 := Aside0.mk HP4.out
        obtain ⟨D8, hD8⟩ : ∃ z, z = D := ⟨_, rfl⟩
        rw [← hD8] at M8
        clear hb C4 M4 B4 hD8 ec0 ef0 ec1 ef1 ec2 ef2
        have HST2 := Aside0.mk (show St (i + 1) (now) (turns) d from HST.out.up)
        go_wp2_with fail
        refine (clen_calls C8.out).mono ?_
        rintro y w20 ⟨rfl, hb⟩
        have C20 := Aside0.mk (C8.out.below hb).bnd; have M20 := Aside0.mk (M8.out.keep (hb.block mb M8.out.lt)); have B20 := Aside0.mk (below_step B8.out hb)
        have hsz_ := M20.out.ok.size
        clear hb C8 M8 B8
        go_wp2_with (first | (at_len; refine wpList_len_own _ rfl _ 53 rfl 9 3 Try.underlying53 RI mb d.length _ rfl M20.out.own ?_) | (at_range; refine wpList_range_own _ rfl _ 53 rfl 9 3 key9 Try.underlying53 RI mb d.length _ rfl M20.out.own ?_; intro w21 hrg hgr hs21; have RG := Aside0.mk hrg; have GR := Aside0.mk hgr; clear hrg hgr hs21))
        (try go_frame)
        have C21 := Aside0.mk (C20.out.keep (fun k hk hl => GR.out.block k hl (by simp))); have M21 := Aside0.mk (M20.out.keep (GR.out.block mb M20.out.lt (by simp))); have B21 := Aside0.mk (below_grownN B20.out B20.out.size GR.out (fun k e => by simp at e))
        have HMR_ := Aside0.mk M20.out.lt; have RGL_ := Aside0.mk (show w20.heap.size < w21.heap.size from blk_lt_ RG.out); have RGM_ := Aside0.mk B20.out.size
        clear hsz_ C20 M20 B20 GR
        generalize hrr : w20.heap.size = r at RG C21 HMR_ RGL_ RGM_ ⊢
        have HMR := Aside0.mk HMR_.out; have RGL := Aside0.mk RGL_.out; have RGM := Aside0.mk RGM_.out
        obtain ⟨cn, hcn⟩ : ∃ z, z = Maps.size D8 := ⟨_, rfl⟩
        rw [← hcn] at RG
        clear hrr hcn
        go_loopg [] (cn + 1) (fun kq_ w' => ∃ (left : Lit → Bool) (cnt : Nat), Aside0 (kq_ = cnt + 1) ∧ Aside0 (w'.ranges Try.prog 9 RI mb r d.length D8 left cnt) ∧ Aside0 (∀ l, left l = true → Maps.has D8 l = true) ∧ Aside0 (Ck w1.heap.size (fun k => P4 k ∧ k < r) w' g (now) (turns) d) ∧ Aside0 (IsDue w' mb d D8) ∧ Aside0 (Below w1.heap.size w1 w') ∧ Aside0 (r < w'.heap.size ∧ w1.heap.size ≤ r))
        case atStart => exact ⟨_, cn, ⟨rfl⟩, RG, ⟨fun l h => h⟩, C21, M21, B21, ⟨by have := RGL.out; omega, by have := RGM.out; omega⟩⟩
        case round =>
          clear RG C21 M21 B21 HMR_ RGL_ RGM_
          obtain ⟨left, cnt, HKQ, RG, HLF, C22, M22, B22, HRL⟩ := hrel
          generalize wr = w22 at RG C22 M22 B22 HRL ⊢
          rcases RG.out.next key9 0 with ⟨h0, hl, hrun⟩ | ⟨key, v, kll, y, w23, cnt', hkey, hlk, hv, hat, hrun, hrg, hlt, hgr, hsz, hen⟩
          · clear h0 hl
            go_wp2_with fail
            clear hrun
            go_roundg (l0.length - i)
            case measure => have := NK.out; have := HI.out; omega
            case rel => exact ⟨i + 1, d, now, turns, _, _, by (first | rw [b2_] | rfl), ⟨by have := NK.out; have := HI.out; omega⟩, C22, M22, ⟨fun h => HP8.out h.1⟩, HST2, B22⟩
          obtain ⟨s', rfl, rfl, -⟩ := WideMaps.string_of_keyOf Try.underlying9 hkey
          obtain ⟨cc, rfl, hy⟩ := RI_inv hv
          subst hy
          have hmem : ∃ x ∈ d, x.nm = s' := by
            have h1 := HLF.out _ hlk
            have h2 := (M22.out.ok.has s').symm.trans h1
            obtain ⟨x, hx, e⟩ := List.any_eq_true.1 h2
            exact ⟨x, hx, by simpa using e⟩
          obtain ⟨x, hx, rfl⟩ := hmem
          have hcc : cc = x.at_ := by
            have h1 := (M22.out.ok.get x hx .nil).symm.trans (hat .nil)
            injection h1 with h1
            injection h1 with _ h1
            exact h1.symm
          subst hcc
          have HX := Aside0.mk hx
          have C23 := Aside0.mk (C22.out.keep (fun k hk hl => hgr.block k hl (fun e => by injection e with e; have := hk.2; omega))); have M23 := Aside0.mk (M22.out.keep (hgr.block mb M22.out.lt (fun e => by injection e with e; have := HMR.out; omega))); have B23 := Aside0.mk (below_grownN B22.out B22.out.size hgr (fun k e => by injection e with e; have := HRL.out; omega))
          have RG3 := Aside0.mk hrg; have HLT := Aside0.mk hlt; have HS3 := Aside0.mk (show r < w23.heap.size ∧ w1.heap.size ≤ r by rw [hsz]; exact HRL.out)
          have HLF3 := Aside0.mk (show ∀ l, (left l && !l.sameKey (Lit.string x.nm.data.toList)) = true → Maps.has D8 l = true from fun l h => HLF.out l (by cases h2 : left l <;> simp [h2] at h ⊢))
          have t1 : decide (x.at_ ≤ now) = false := decide_eq_false (by have := HST2.out.hsoon x hx; omega)
          clear hkey hlk hv hat hrg hlt hgr hsz hx RG C22 M22 B22 HRL HLF
          go_wp2_with fail
          refine (when_yes C23.out HX.out).mono ?_
          rintro y w24 ⟨rfl, hb⟩
          have C24 := Aside0.mk (C23.out.below hb); have M24 := Aside0.mk (M23.out.keep (hb.block mb M23.out.lt)); have B24 := Aside0.mk (below_step B23.out hb); have RG4 := Aside0.mk (RG3.out.below_ hb); have HS4 := Aside0.mk (show r < w24.heap.size ∧ w1.heap.size ≤ r from ⟨Nat.lt_of_lt_of_le HS3.out.1 hb.size, HS3.out.2⟩)
          clear hb C23 M23 B23 RG3 HS3
          go_wp2_with fail
          refine (now_calls C24.out).mono ?_
          rintro y w25 ⟨rfl, hb⟩
          have C25 := Aside0.mk (C24.out.below hb); have M25 := Aside0.mk (M24.out.keep (hb.block mb M24.out.lt)); have B25 := Aside0.mk (below_step B24.out hb); have RG5 := Aside0.mk (RG4.out.below_ hb); have HS5 := Aside0.mk (show r < w25.heap.size ∧ w1.heap.size ≤ r from ⟨Nat.lt_of_lt_of_le HS4.out.1 hb.size, HS4.out.2⟩)
          clear hb C24 M24 B24 RG4 HS4
          go_wp2_with fail
          go_roundg (cnt' + 1)
          case measure => have := HKQ.out; have := HLT.out; omega
          case rel => exact ⟨_, cnt', ⟨rfl⟩, RG5, HLF3, C25, M25, B25, HS5⟩
      have HOK := Aside0.mk (show 1 ≤ lt ∧ lt ≤ 1099511627776 - now by omega)
      have b3_ : wrap64 (now + lt) = now + lt := by have := HST.out.hnow; have := HIL.out; have := HOK.out; unfold wrap64; omega
      clear hbad
      go_wp2_with fail
      refine (set_ok (s := s) (later := lt) C4.out HOK.out (by have := HST.out.hturns; have := HIL.out; omega) HSZ.out (Or.inr (by have := HST.out.hlen; have := HIL.out; omega))).mono ?_
      rintro y w5 ⟨rfl, ⟨bk, hC⟩, hb, hk⟩
      have C5 := Aside0.mk hC; have B5 := Aside0.mk (B4.out.trans hb); have M5 := Aside0.mk (M4.out.keep (hk.2 mb M4.out.lt HP4.out)); have E5 := Aside0.mk ((hk.2 g8 (blk_lt E4.out) HE8.out).trans E4.out)
      have HP5 := Aside0.mk (show ¬(fun k => P4 k ∨ w4.heap.size ≤ k) mb from fun h => h.elim HP4.out (fun h => Nat.not_lt.mpr h M4.out.lt))
      have HST3 := Aside0.mk (show St (i + 1) now (turns + 1) (but d s ++ [(⟨s, now + lt, turns + 1, bk⟩ : Du)]) from HST.out.set s (by have := HOK.out; omega) bk)
      have NDN := Aside0.mk C4.out.names
      clear hC hb hk C4 M4 B4 E4 ec0 ef0 ec1 ef1 ec2 ef2
      have ec0 : w5.cell? ⟨g8, 0, none⟩ = some (.int .i64 0) := (blk_cell E5.out 0).trans rfl; have ef0 := blk_frozen E5.out 0; have ec1 : w5.cell? ⟨g8, 1, none⟩ = some (.int .i64 lt) := (blk_cell E5.out 1).trans rfl; have ef1 := blk_frozen E5.out 1; have ec2 : w5.cell? ⟨g8, 2, none⟩ = some (.string s) := (blk_cell E5.out 2).trans rfl; have ef2 := blk_frozen E5.out 2
      go_wp2_with fail
      refine start_ (n := 9) (S := fun w' => w'.cell? ⟨g8, 1, none⟩ = some (.int .i64 lt) ∧ w'.cell? ⟨g8, 2, none⟩ = some (.string s)) (ds := [8]) #[false, false, false, false, false, false, false, false, false] (by kernel_rfl) rfl rfl ⟨(blk_cell (blk_drew E5.out) 1).trans rfl, (blk_cell (blk_drew E5.out) 2).trans rfl⟩ (fun hHeld => ?_)
      refine pure_ (i := 0) (N := some 39) (v := ?_) (a' := ?_) #[true, false, false, false, false, false, false, false, false] rfl rfl (by kernel_rfl) (fun _ _ _ h => h) (Or.inl ⟨by rfl, ?_⟩) ?_ ?_
      rotate_left
      · intro w'
        go_simp
        with_reducible rfl
      rotate_left
      · simp only [Act.put, List.setIfInBounds_toArray, List.set_cons_zero, List.set_cons_succ, i64_w, i32_w]
        rfl
      refine pure_ (i := 1) (N := some 40) (v := ?_) (a' := ?_) #[true, true, false, false, false, false, false, false, false] rfl rfl (by kernel_rfl) (fun _ _ _ h => h) (Or.inl ⟨by rfl, ?_⟩) ?_ ?_
      rotate_left
      · intro w'
        go_simp
        with_reducible rfl
      rotate_left
      · simp only [Act.put, List.setIfInBounds_toArray, List.set_cons_zero, List.set_cons_succ, i64_w, i32_w]
        rfl
      refine pure_ (i := 3) (N := some 42) (v := ?_) (a' := ?_) #[true, true, false, true, false, false, false, false, false] rfl rfl (by kernel_rfl) (fun _ _ _ h => h) (Or.inl ⟨by rfl, ?_⟩) ?_ ?_
      rotate_left
      · intro w'
        go_simp
        with_reducible rfl
      rotate_left
      · simp only [Act.put, List.setIfInBounds_toArray, List.set_cons_zero, List.set_cons_succ, i64_w, i32_w]
        rfl
      refine pure_ (i := 5) (N := some 44) (v := ?_) (a' := ?_) #[true, true, false, true, false, true, false, false, false] rfl rfl (by kernel_rfl) (fun _ _ _ h => h) (Or.inl ⟨by rfl, ?_⟩) ?_ ?_
      rotate_left
      · intro w'
        go_simp
        with_reducible rfl
      rotate_left
      · simp only [Act.put, List.setIfInBounds_toArray, List.set_cons_zero, List.set_cons_succ, i64_w, i32_w]
        rfl
      refine take_ (i := 2) (N := some 41) (v := ?_) (a' := ?_) #[true, true, true, true, false, true, false, false, false] rfl rfl (by kernel_rfl) (fun _ _ _ h => h) (Or.inl ⟨by rfl, ?_⟩) hHeld ?_ ?_
      rotate_left
      · rintro w' ⟨s0, s1⟩
        go_simp
        with_reducible rfl
      rotate_left
      · simp only [Act.put, List.setIfInBounds_toArray, List.set_cons_zero, List.set_cons_succ, i64_w, i32_w]
        rfl
      refine take_ (i := 6) (N := some 45) (v := ?_) (a' := ?_) #[true, true, true, true, false, true, true, false, false] rfl rfl (by kernel_rfl) (fun _ _ _ h => h) (Or.inl ⟨by rfl, ?_⟩) hHeld ?_ ?_
      rotate_left
      · rintro w' ⟨s0, s1⟩
        go_simp
        with_reducible rfl
      rotate_left
      · simp only [Act.put, List.setIfInBounds_toArray, List.set_cons_zero, List.set_cons_succ, i64_w, i32_w]
        rfl
      refine one_ (i := 4) (N := some 43) #[true, true, true, true, true, true, true, false, false] rfl rfl (by kernel_rfl) (by decide) (fun K hK => ?_)
      refine goes_ Try.func14 (by kernel_rfl) rfl #[.pointer (some ⟨g, 0, none⟩)] (by rfl) rfl rfl (by simp only [List.map_toArray, List.map_cons, List.map_nil]; rfl) ?_
      with_reducible refine (now_calls (w := w5.drew) C5.out.drew).mono ?_
      rintro y w6 ⟨rfl, hb⟩
      refine ⟨_, rfl, ?_⟩
      have C6 := Aside0.mk (C5.out.drew.below hb); have B6 := Aside0.mk (below_step (below_drew B5.out) hb); have M6 := Aside0.mk ((M5.out.keep (w' := w5.drew) rfl).keep (hb.block mb M5.out.lt)); have E6 := Aside0.mk (blk_below (blk_drew E5.out) hb)
      obtain ⟨w7, hupd, hown, hturn⟩ := M6.out.own.store key9 Try.underlying53 (Nat.lt_of_le_of_lt HST.out.hlen (Nat.lt_of_lt_of_le HIL.out (by decide))) (keyOf9 HSZ.out) (RI_mk b3_)
      have HO7 := Aside0.mk hown; have GR7 := Aside0.mk hturn.grown
      clear hown hturn hb
      refine hK.out _ _ ⟨(blk_cell E6.out 1).trans rfl, (blk_cell E6.out 2).trans rfl⟩ (fun hHeld => ?_)
      clear hK K
      refine norm_ (a' := ?_) ?_ ?_
      rotate_left
      · show Act.put _ (some 43) _ = _
        simp only [Act.put, List.setIfInBounds_toArray, List.set_cons_zero, List.set_cons_succ, i64_w, i32_w]
        rfl
      refine pure_ (i := 7) (N := some 46) (v := ?_) (a' := ?_) #[true, true, true, true, true, true, true, true, false] rfl rfl (by kernel_rfl) (fun _ _ _ h => h) (Or.inl ⟨by rfl, ?_⟩) ?_ ?_
      rotate_left
      · intro w'
        go_simp
        with_reducible rfl
      rotate_left
      · simp only [Act.put, List.setIfInBounds_toArray, List.set_cons_zero, List.set_cons_succ, i64_w, i32_w]
        rfl
      refine last_ (i := 8) (N := none) #[true, true, true, true, true, true, true, true, true] rfl rfl (by kernel_rfl) (by decide) (fun K hK => ?_)
      refine skip_ (w1 := ?_) (by rfl) rfl ?_ ?_
      rotate_left
      · go_simp
        rfl
      refine hK.out _ _ ?_
      clear hK K
      refine done_ (by kernel_rfl) ?_
      have M8 := Aside0.mk (IsDue.of HO7.out (M6.out.ok.put NDN.out s (now + lt) (turns + 1) bk))
      have C8 := Aside0.mk (C6.out.keep (fun k hk hl => GR7.out.block k hl (fun e => by injection e with e; exact HP5.out (e ▸ hk)))); have B8 := Aside0.mk (below_grownN B6.out B6.out.size GR7.out (fun k e => by injection e with e; rw [← e]; exact GM.out)); have HP8 := Aside0.mk HP5.out
      clear hupd HO7 GR7 C5 B5 M5 E5 C6 B6 M6 E6 HP4 hHeld ec0 ef0 ec1 ef1 ec2 ef2
      obtain ⟨D8, hD8⟩ : ∃ z, z = D.put (kl s) (.lit (.int .i64 (now + lt))) := ⟨_, rfl⟩
      rw [← hD8] at M8
      clear hD8
      generalize (but d s ++ [(⟨s, now + lt, turns + 1, bk⟩ : Du)]) = d2 at C8 M8 HST3
      obtain ⟨P8, hP8⟩ : ∃ P8, P8 = (fun k => P4 k ∨ w4.heap.size ≤ k) := ⟨_, rfl⟩
      rw [← hP8] at C8
      clear HP8
      have HP8 := Aside0.mk (show ¬P8 mb by rw [hP8]; exact HP5.out)
      clear hP8 HP5
      have HST2 := Aside0.mk (show St (i + 1) (now) (turns + 1) d2 from HST3.out)
      go_wp2_with fail
      refine (clen_calls C8.out).mono ?_
      rintro y w20 ⟨rfl, hb⟩
      have C20 := Aside0.mk (C8.out.below hb).bnd; have M20 := Aside0.mk (M8.out.keep (hb.block mb M8.out.lt)); have B20 := Aside0.mk (below_step B8.out hb)
      have hsz_ := M20.out.ok.size
      clear hb C8 M8 B8
      go_wp2_with (first | (at_len; refine wpList_len_own _ rfl _ 53 rfl 9 3 Try.underlying53 RI mb d2.length _ rfl M20.out.own ?_) | (at_range; refine wpList_range_own _ rfl _ 53 rfl 9 3 key9 Try.underlying53 RI mb d2.length _ rfl M20.out.own ?_; intro w21 hrg hgr hs21; have RG := Aside0.mk hrg; have GR := Aside0.mk hgr; clear hrg hgr hs21))
      (try go_frame)
      have C21 := Aside0.mk (C20.out.keep (fun k hk hl => GR.out.block k hl (by simp))); have M21 := Aside0.mk (M20.out.keep (GR.out.block mb M20.out.lt (by simp))); have B21 := Aside0.mk (below_grownN B20.out B20.out.size GR.out (fun k e => by simp at e))
      have HMR_ := Aside0.mk M20.out.lt; have RGL_ := Aside0.mk (show w20.heap.size < w21.heap.size from blk_lt_ RG.out); have RGM_ := Aside0.mk B20.out.size
      clear hsz_ C20 M20 B20 GR
      generalize hrr : w20.heap.size = r at RG C21 HMR_ RGL_ RGM_ ⊢
      have HMR := Aside0.mk HMR_.out; have RGL := Aside0.mk RGL_.out; have RGM := Aside0.mk RGM_.out
      obtain ⟨cn, hcn⟩ : ∃ z, z = Maps.size D8 := ⟨_, rfl⟩
      rw [← hcn] at RG
      clear hrr hcn
      go_loopg [] (cn + 1) (fun kq_ w' => ∃ (left : Lit → Bool) (cnt : Nat), Aside0 (kq_ = cnt + 1) ∧ Aside0 (w'.ranges Try.prog 9 RI mb r d2.length D8 left cnt) ∧ Aside0 (∀ l, left l = true → Maps.has D8 l = true) ∧ Aside0 (Ck w1.heap.size (fun k => P8 k ∧ k < r) w' g (now) (turns + 1) d2) ∧ Aside0 (IsDue w' mb d2 D8) ∧ Aside0 (Below w1.heap.size w1 w') ∧ Aside0 (r < w'.heap.size ∧ w1.heap.size ≤ r))
      case atStart => exact ⟨_, cn, ⟨rfl⟩, RG, ⟨fun l h => h⟩, C21, M21, B21, ⟨by have := RGL.out; omega, by have := RGM.out; omega⟩⟩
      case round =>
        clear RG C21 M21 B21 HMR_ RGL_ RGM_
        obtain ⟨left, cnt, HKQ, RG, HLF, C22, M22, B22, HRL⟩ := hrel
        generalize wr = w22 at RG C22 M22 B22 HRL ⊢
        rcases RG.out.next key9 0 with ⟨h0, hl, hrun⟩ | ⟨key, v, kll, y, w23, cnt', hkey, hlk, hv, hat, hrun, hrg, hlt, hgr, hsz, hen⟩
        · clear h0 hl
          go_wp2_with fail
          clear hrun
          go_roundg (l0.length - i)
          case measure => have := NK.out; have := HI.out; omega
          case rel => exact ⟨i + 1, d2, now, turns + 1, _, _, by (first | rw [b2_] | rfl), ⟨by have := NK.out; have := HI.out; omega⟩, C22, M22, ⟨fun h => HP8.out h.1⟩, HST2, B22⟩
        obtain ⟨s', rfl, rfl, -⟩ := WideMaps.string_of_keyOf Try.underlying9 hkey
        obtain ⟨cc, rfl, hy⟩ := RI_inv hv
        subst hy
        have hmem : ∃ x ∈ d2, x.nm = s' := by
          have h1 := HLF.out _ hlk
          have h2 := (M22.out.ok.has s').symm.trans h1
          obtain ⟨x, hx, e⟩ := List.any_eq_true.1 h2
          exact ⟨x, hx, by simpa using e⟩
        obtain ⟨x, hx, rfl⟩ := hmem
        have hcc : cc = x.at_ := by
          have h1 := (M22.out.ok.get x hx .nil).symm.trans (hat .nil)
          injection h1 with h1
          injection h1 with _ h1
          exact h1.symm
        subst hcc
        have HX := Aside0.mk hx
        have C23 := Aside0.mk (C22.out.keep (fun k hk hl => hgr.block k hl (fun e => by injection e with e; have := hk.2; omega))); have M23 := Aside0.mk (M22.out.keep (hgr.block mb M22.out.lt (fun e => by injection e with e; have := HMR.out; omega))); have B23 := Aside0.mk (below_grownN B22.out B22.out.size hgr (fun k e => by injection e with e; have := HRL.out; omega))
        have RG3 := Aside0.mk hrg; have HLT := Aside0.mk hlt; have HS3 := Aside0.mk (show r < w23.heap.size ∧ w1.heap.size ≤ r by rw [hsz]; exact HRL.out)
        have HLF3 := Aside0.mk (show ∀ l, (left l && !l.sameKey (Lit.string x.nm.data.toList)) = true → Maps.has D8 l = true from fun l h => HLF.out l (by cases h2 : left l <;> simp [h2] at h ⊢))
        have t1 : decide (x.at_ ≤ now) = false := decide_eq_false (by have := HST2.out.hsoon x hx; omega)
        clear hkey hlk hv hat hrg hlt hgr hsz hx RG C22 M22 B22 HRL HLF
        go_wp2_with fail
        refine (when_yes C23.out HX.out).mono ?_
        rintro y w24 ⟨rfl, hb⟩
        have C24 := Aside0.mk (C23.out.below hb); have M24 := Aside0.mk (M23.out.keep (hb.block mb M23.out.lt)); have B24 := Aside0.mk (below_step B23.out hb); have RG4 := Aside0.mk (RG3.out.below_ hb); have HS4 := Aside0.mk (show r < w24.heap.size ∧ w1.heap.size ≤ r from ⟨Nat.lt_of_lt_of_le HS3.out.1 hb.size, HS3.out.2⟩)
        clear hb C23 M23 B23 RG3 HS3
        go_wp2_with fail
        refine (now_calls C24.out).mono ?_
        rintro y w25 ⟨rfl, hb⟩
        have C25 := Aside0.mk (C24.out.below hb); have M25 := Aside0.mk (M24.out.keep (hb.block mb M24.out.lt)); have B25 := Aside0.mk (below_step B24.out hb); have RG5 := Aside0.mk (RG4.out.below_ hb); have HS5 := Aside0.mk (show r < w25.heap.size ∧ w1.heap.size ≤ r from ⟨Nat.lt_of_lt_of_le HS4.out.1 hb.size, HS4.out.2⟩)
        clear hb C24 M24 B24 RG4 HS4
        go_wp2_with fail
        go_roundg (cnt' + 1)
        case measure => have := HKQ.out; have := HLT.out; omega
        case rel => exact ⟨_, cnt', ⟨rfl⟩, RG5, HLF3, C25, M25, B25, HS5⟩
    by_cases hk1 : kd = 1
    · subst hk1
      by_cases hx : ∃ x ∈ d, x.nm = s
      rotate_left
      · have hno : ∀ x ∈ d, x.nm ≠ s := fun x h1 h2 => hx ⟨x, h1, h2⟩
        have HNO := Aside0.mk hno
        clear hx hno
        go_wp2_with fail
        refine (drop_no C4.out HSZ.out HNO.out).mono ?_
        rintro y w8 ⟨rfl, hb⟩
        have C8 := Aside0.mk (C4.out.below hb); have M8 := Aside0.mk (M4.out.keep (hb.block mb M4.out.lt)); have B8 := Aside0.mk (below_step B4.out hb); have HP8 := Aside0.mk HP4.out
        obtain ⟨D8, hD8⟩ : ∃ z, z = D := ⟨_, rfl⟩
        rw [← hD8] at M8
        clear hb C4 M4 B4 hD8 ec0 ef0 ec1 ef1 ec2 ef2
        have HST2 := Aside0.mk (show St (i + 1) (now) (turns) d from HST.out.up)
        go_wp2_with fail
        refine (clen_calls C8.out).mono ?_
        rintro y w20 ⟨rfl, hb⟩
        have C20 := Aside0.mk (C8.out.below hb).bnd; have M20 := Aside0.mk (M8.out.keep (hb.block mb M8.out.lt)); have B20 := Aside0.mk (below_step B8.out hb)
        have hsz_ := M20.out.ok.size
        clear hb C8 M8 B8
        go_wp2_with (first | (at_len; refine wpList_len_own _ rfl _ 53 rfl 9 3 Try.underlying53 RI mb d.length _ rfl M20.out.own ?_) | (at_range; refine wpList_range_own _ rfl _ 53 rfl 9 3 key9 Try.underlying53 RI mb d.length _ rfl M20.out.own ?_; intro w21 hrg hgr hs21; have RG := Aside0.mk hrg; have GR := Aside0.mk hgr; clear hrg hgr hs21))
        (try go_frame)
        have C21 := Aside0.mk (C20.out.keep (fun k hk hl => GR.out.block k hl (by simp))); have M21 := Aside0.mk (M20.out.keep (GR.out.block mb M20.out.lt (by simp))); have B21 := Aside0.mk (below_grownN B20.out B20.out.size GR.out (fun k e => by simp at e))
        have HMR_ := Aside0.mk M20.out.lt; have RGL_ := Aside0.mk (show w20.heap.size < w21.heap.size from blk_lt_ RG.out); have RGM_ := Aside0.mk B20.out.size
        clear hsz_ C20 M20 B20 GR
        generalize hrr : w20.heap.size = r at RG C21 HMR_ RGL_ RGM_ ⊢
        have HMR := Aside0.mk HMR_.out; have RGL := Aside0.mk RGL_.out; have RGM := Aside0.mk RGM_.out
        obtain ⟨cn, hcn⟩ : ∃ z, z = Maps.size D8 := ⟨_, rfl⟩
        rw [← hcn] at RG
        clear hrr hcn
        go_loopg [] (cn + 1) (fun kq_ w' => ∃ (left : Lit → Bool) (cnt : Nat), Aside0 (kq_ = cnt + 1) ∧ Aside0 (w'.ranges Try.prog 9 RI mb r d.length D8 left cnt) ∧ Aside0 (∀ l, left l = true → Maps.has D8 l = true) ∧ Aside0 (Ck w1.heap.size (fun k => P4 k ∧ k < r) w' g (now) (turns) d) ∧ Aside0 (IsDue w' mb d D8) ∧ Aside0 (Below w1.heap.size w1 w') ∧ Aside0 (r < w'.heap.size ∧ w1.heap.size ≤ r))
        case atStart => exact ⟨_, cn, ⟨rfl⟩, RG, ⟨fun l h => h⟩, C21, M21, B21, ⟨by have := RGL.out; omega, by have := RGM.out; omega⟩⟩
        case round =>
          clear RG C21 M21 B21 HMR_ RGL_ RGM_
          obtain ⟨left, cnt, HKQ, RG, HLF, C22, M22, B22, HRL⟩ := hrel
          generalize wr = w22 at RG C22 M22 B22 HRL ⊢
          rcases RG.out.next key9 0 with ⟨h0, hl, hrun⟩ | ⟨key, v, kll, y, w23, cnt', hkey, hlk, hv, hat, hrun, hrg, hlt, hgr, hsz, hen⟩
          · clear h0 hl
            go_wp2_with fail
            clear hrun
            go_roundg (l0.length - i)
            case measure => have := NK.out; have := HI.out; omega
            case rel => exact ⟨i + 1, d, now, turns, _, _, by (first | rw [b2_] | rfl), ⟨by have := NK.out; have := HI.out; omega⟩, C22, M22, ⟨fun h => HP8.out h.1⟩, HST2, B22⟩
          obtain ⟨s', rfl, rfl, -⟩ := WideMaps.string_of_keyOf Try.underlying9 hkey
          obtain ⟨cc, rfl, hy⟩ := RI_inv hv
          subst hy
          have hmem : ∃ x ∈ d, x.nm = s' := by
            have h1 := HLF.out _ hlk
            have h2 := (M22.out.ok.has s').symm.trans h1
            obtain ⟨x, hx, e⟩ := List.any_eq_true.1 h2
            exact ⟨x, hx, by simpa using e⟩
          obtain ⟨x, hx, rfl⟩ := hmem
          have hcc : cc = x.at_ := by
            have h1 := (M22.out.ok.get x hx .nil).symm.trans (hat .nil)
            injection h1 with h1
            injection h1 with _ h1
            exact h1.symm
          subst hcc
          have HX := Aside0.mk hx
          have C23 := Aside0.mk (C22.out.keep (fun k hk hl => hgr.block k hl (fun e => by injection e with e; have := hk.2; omega))); have M23 := Aside0.mk (M22.out.keep (hgr.block mb M22.out.lt (fun e => by injection e with e; have := HMR.out; omega))); have B23 := Aside0.mk (below_grownN B22.out B22.out.size hgr (fun k e => by injection e with e; have := HRL.out; omega))
          have RG3 := Aside0.mk hrg; have HLT := Aside0.mk hlt; have HS3 := Aside0.mk (show r < w23.heap.size ∧ w1.heap.size ≤ r by rw [hsz]; exact HRL.out)
          have HLF3 := Aside0.mk (show ∀ l, (left l && !l.sameKey (Lit.string x.nm.data.toList)) = true → Maps.has D8 l = true from fun l h => HLF.out l (by cases h2 : left l <;> simp [h2] at h ⊢))
          have t1 : decide (x.at_ ≤ now) = false := decide_eq_false (by have := HST2.out.hsoon x hx; omega)
          clear hkey hlk hv hat hrg hlt hgr hsz hx RG C22 M22 B22 HRL HLF
          go_wp2_with fail
          refine (when_yes C23.out HX.out).mono ?_
          rintro y w24 ⟨rfl, hb⟩
          have C24 := Aside0.mk (C23.out.below hb); have M24 := Aside0.mk (M23.out.keep (hb.block mb M23.out.lt)); have B24 := Aside0.mk (below_step B23.out hb); have RG4 := Aside0.mk (RG3.out.below_ hb); have HS4 := Aside0.mk (show r < w24.heap.size ∧ w1.heap.size ≤ r from ⟨Nat.lt_of_lt_of_le HS3.out.1 hb.size, HS3.out.2⟩)
          clear hb C23 M23 B23 RG3 HS3
          go_wp2_with fail
          refine (now_calls C24.out).mono ?_
          rintro y w25 ⟨rfl, hb⟩
          have C25 := Aside0.mk (C24.out.below hb); have M25 := Aside0.mk (M24.out.keep (hb.block mb M24.out.lt)); have B25 := Aside0.mk (below_step B24.out hb); have RG5 := Aside0.mk (RG4.out.below_ hb); have HS5 := Aside0.mk (show r < w25.heap.size ∧ w1.heap.size ≤ r from ⟨Nat.lt_of_lt_of_le HS4.out.1 hb.size, HS4.out.2⟩)
          clear hb C24 M24 B24 RG4 HS4
          go_wp2_with fail
          go_roundg (cnt' + 1)
          case measure => have := HKQ.out; have := HLT.out; omega
          case rel => exact ⟨_, cnt', ⟨rfl⟩, RG5, HLF3, C25, M25, B25, HS5⟩
      obtain ⟨x, hx, rfl⟩ := hx
      have HX := Aside0.mk hx; have NDN := Aside0.mk C4.out.names
      clear hx
      go_wp2_with fail
      refine (drop_yes C4.out (by have := HST.out.hturns; have := HIL.out; omega) HX.out).mono ?_
      rintro y w5 ⟨rfl, hC, hb, hk⟩
      have C5 := Aside0.mk hC; have B5 := Aside0.mk (B4.out.trans hb); have M5 := Aside0.mk (M4.out.keep (hk.2 mb M4.out.lt HP4.out)); have E5 := Aside0.mk ((hk.2 g8 (blk_lt E4.out) HE8.out).trans E4.out)
      have HST3 := Aside0.mk (show St (i + 1) now turns (but d x.nm) from HST.out.drop x.nm)
      clear hC hb hk C4 M4 B4 E4 ec0 ef0 ec1 ef1 ec2 ef2
      have ec0 : w5.cell? ⟨g8, 0, none⟩ = some (.int .i64 1) := (blk_cell E5.out 0).trans rfl; have ef0 := blk_frozen E5.out 0; have ec1 : w5.cell? ⟨g8, 1, none⟩ = some (.int .i64 lt) := (blk_cell E5.out 1).trans rfl; have ef1 := blk_frozen E5.out 1; have ec2 : w5.cell? ⟨g8, 2, none⟩ = some (.string x.nm) := (blk_cell E5.out 2).trans rfl; have ef2 := blk_frozen E5.out 2
      go_wp2_with (first | (at_delete; refine wpList_delete_own _ rfl _ _ 53 9 rfl 3 key9 Try.underlying53 RI mb d.length D rfl M5.out.own _ (kl x.nm) rfl (keyOf9 HSZ.out) ?_; intro w8 hown hturn; have GR8 := Aside0.mk hturn.grown; have M8 := Aside0.mk (IsDue.of hown (M5.out.ok.del NDN.out HX.out)); have C8 := Aside0.mk (C5.out.keep (fun k hk hl => GR8.out.block k hl (fun e => by injection e with e; exact HP4.out (e ▸ hk)))); have B8 := Aside0.mk (below_grownN B5.out B5.out.size GR8.out (fun k e => by injection e with e; rw [← e]; exact GM.out)); have HP8 := Aside0.mk HP4.out; clear hown hturn GR8))
      obtain ⟨D8, hD8⟩ : ∃ z, z = D.del (kl x.nm) := ⟨_, rfl⟩
      rw [← hD8] at M8
      generalize but d x.nm = d2 at C8 M8 HST3
      clear C5 M5 B5 E5 hD8 ec0 ef0 ec1 ef1 ec2 ef2
      have HST2 := Aside0.mk (show St (i + 1) (now) (turns) d2 from HST3.out)
      refine (clen_calls C8.out).mono ?_
      rintro y w20 ⟨rfl, hb⟩
      have C20 := Aside0.mk (C8.out.below hb).bnd; have M20 := Aside0.mk (M8.out.keep (hb.block mb M8.out.lt)); have B20 := Aside0.mk (below_step B8.out hb)
      have hsz_ := M20.out.ok.size
      clear hb C8 M8 B8
      go_wp2_with (first | (at_len; refine wpList_len_own _ rfl _ 53 rfl 9 3 Try.underlying53 RI mb d2.length _ rfl M20.out.own ?_) | (at_range; refine wpList_range_own _ rfl _ 53 rfl 9 3 key9 Try.underlying53 RI mb d2.length _ rfl M20.out.own ?_; intro w21 hrg hgr hs21; have RG := Aside0.mk hrg; have GR := Aside0.mk hgr; clear hrg hgr hs21))
      (try go_frame)
      have C21 := Aside0.mk (C20.out.keep (fun k hk hl => GR.out.block k hl (by simp))); have M21 := Aside0.mk (M20.out.keep (GR.out.block mb M20.out.lt (by simp))); have B21 := Aside0.mk (below_grownN B20.out B20.out.size GR.out (fun k e => by simp at e))
      have HMR_ := Aside0.mk M20.out.lt; have RGL_ := Aside0.mk (show w20.heap.size < w21.heap.size from blk_lt_ RG.out); have RGM_ := Aside0.mk B20.out.size
      clear hsz_ C20 M20 B20 GR
      generalize hrr : w20.heap.size = r at RG C21 HMR_ RGL_ RGM_ ⊢
      have HMR := Aside0.mk HMR_.out; have RGL := Aside0.mk RGL_.out; have RGM := Aside0.mk RGM_.out
      obtain ⟨cn, hcn⟩ : ∃ z, z = Maps.size D8 := ⟨_, rfl⟩
      rw [← hcn] at RG
      clear hrr hcn
      go_loopg [] (cn + 1) (fun kq_ w' => ∃ (left : Lit → Bool) (cnt : Nat), Aside0 (kq_ = cnt + 1) ∧ Aside0 (w'.ranges Try.prog 9 RI mb r d2.length D8 left cnt) ∧ Aside0 (∀ l, left l = true → Maps.has D8 l = true) ∧ Aside0 (Ck w1.heap.size (fun k => P4 k ∧ k < r) w' g (now) (turns) d2) ∧ Aside0 (IsDue w' mb d2 D8) ∧ Aside0 (Below w1.heap.size w1 w') ∧ Aside0 (r < w'.heap.size ∧ w1.heap.size ≤ r))
      case atStart => exact ⟨_, cn, ⟨rfl⟩, RG, ⟨fun l h => h⟩, C21, M21, B21, ⟨by have := RGL.out; omega, by have := RGM.out; omega⟩⟩
      case round =>
        clear RG C21 M21 B21 HMR_ RGL_ RGM_
        obtain ⟨left, cnt, HKQ, RG, HLF, C22, M22, B22, HRL⟩ := hrel
        generalize wr = w22 at RG C22 M22 B22 HRL ⊢
        rcases RG.out.next key9 0 with ⟨h0, hl, hrun⟩ | ⟨key, v, kll, y, w23, cnt', hkey, hlk, hv, hat, hrun, hrg, hlt, hgr, hsz, hen⟩
        · clear h0 hl
          go_wp2_with fail
          clear hrun
          go_roundg (l0.length - i)
          case measure => have := NK.out; have := HI.out; omega
          case rel => exact ⟨i + 1, d2, now, turns, _, _, by (first | rw [b2_] | rfl), ⟨by have := NK.out; have := HI.out; omega⟩, C22, M22, ⟨fun h => HP8.out h.1⟩, HST2, B22⟩
        obtain ⟨s', rfl, rfl, -⟩ := WideMaps.string_of_keyOf Try.underlying9 hkey
        obtain ⟨cc, rfl, hy⟩ := RI_inv hv
        subst hy
        have hmem : ∃ x ∈ d2, x.nm = s' := by
          have h1 := HLF.out _ hlk
          have h2 := (M22.out.ok.has s').symm.trans h1
          obtain ⟨x, hx, e⟩ := List.any_eq_true.1 h2
          exact ⟨x, hx, by simpa using e⟩
        obtain ⟨x, hx, rfl⟩ := hmem
        have hcc : cc = x.at_ := by
          have h1 := (M22.out.ok.get x hx .nil).symm.trans (hat .nil)
          injection h1 with h1
          injection h1 with _ h1
          exact h1.symm
        subst hcc
        have HX := Aside0.mk hx
        have C23 := Aside0.mk (C22.out.keep (fun k hk hl => hgr.block k hl (fun e => by injection e with e; have := hk.2; omega))); have M23 := Aside0.mk (M22.out.keep (hgr.block mb M22.out.lt (fun e => by injection e with e; have := HMR.out; omega))); have B23 := Aside0.mk (below_grownN B22.out B22.out.size hgr (fun k e => by injection e with e; have := HRL.out; omega))
        have RG3 := Aside0.mk hrg; have HLT := Aside0.mk hlt; have HS3 := Aside0.mk (show r < w23.heap.size ∧ w1.heap.size ≤ r by rw [hsz]; exact HRL.out)
        have HLF3 := Aside0.mk (show ∀ l, (left l && !l.sameKey (Lit.string x.nm.data.toList)) = true → Maps.has D8 l = true from fun l h => HLF.out l (by cases h2 : left l <;> simp [h2] at h ⊢))
        have t1 : decide (x.at_ ≤ now) = false := decide_eq_false (by have := HST2.out.hsoon x hx; omega)
        clear hkey hlk hv hat hrg hlt hgr hsz hx RG C22 M22 B22 HRL HLF
        go_wp2_with fail
        refine (when_yes C23.out HX.out).mono ?_
        rintro y w24 ⟨rfl, hb⟩
        have C24 := Aside0.mk (C23.out.below hb); have M24 := Aside0.mk (M23.out.keep (hb.block mb M23.out.lt)); have B24 := Aside0.mk (below_step B23.out hb); have RG4 := Aside0.mk (RG3.out.below_ hb); have HS4 := Aside0.mk (show r < w24.heap.size ∧ w1.heap.size ≤ r from ⟨Nat.lt_of_lt_of_le HS3.out.1 hb.size, HS3.out.2⟩)
        clear hb C23 M23 B23 RG3 HS3
        go_wp2_with fail
        refine (now_calls C24.out).mono ?_
        rintro y w25 ⟨rfl, hb⟩
        have C25 := Aside0.mk (C24.out.below hb); have M25 := Aside0.mk (M24.out.keep (hb.block mb M24.out.lt)); have B25 := Aside0.mk (below_step B24.out hb); have RG5 := Aside0.mk (RG4.out.below_ hb); have HS5 := Aside0.mk (show r < w25.heap.size ∧ w1.heap.size ≤ r from ⟨Nat.lt_of_lt_of_le HS4.out.1 hb.size, HS4.out.2⟩)
        clear hb C24 M24 B24 RG4 HS4
        go_wp2_with fail
        go_roundg (cnt' + 1)
        case measure => have := HKQ.out; have := HLT.out; omega
        case rel => exact ⟨_, cnt', ⟨rfl⟩, RG5, HLF3, C25, M25, B25, HS5⟩
    by_cases hk2 : kd = 2
    · subst hk2
      have HZD := Aside0.mk (show ∀ x ∈ d, x.nm.size ≤ 9223372036854775807 from fun x hx => C4.out.szs hx); have NDN := Aside0.mk C4.out.names
      have HST3 := Aside0.mk HST.out.tick
      obtain ⟨S, hS⟩ : ∃ z, z = soon d (now + 1) := ⟨_, rfl⟩
      have HS := Aside0.mk hS
      have HSL := Aside0.mk (show S.length ≤ 80 by rw [hS]; have h1 := HST.out.hlen; have := HIL.out; have h2 : (soon d (now + 1)).length ≤ d.length := List.length_filter_le _ _; omega)
      clear hS
      go_wp2_with fail
      have CON := Aside0.mk (tick_calls C4.out HST.out.hsoon (by have := HST.out.hnow; have := HIL.out; omega) (by have := HST.out.hturns; have := HIL.out; omega))
      rw [← HS.out] at CON
      refine CON.out.mono ?_
      rintro y w5 ⟨⟨v5, rfl, hv⟩, hC, hb, hk⟩
      obtain ⟨A5, c5, e5⟩ := Kd.R_slice hv
      subst e5
      rw [List.length_map] at hv
      have L5 := Aside0.mk hv; have C5 := Aside0.mk hC; have B5 := Aside0.mk (B4.out.trans hb); have M5 := Aside0.mk (M4.out.keep (hk.2 mb M4.out.lt (fun h => HP4.out h.1)))
      have HP5 := Aside0.mk (show ¬(fun k => P4 k ∧ k < w4.heap.size) mb from fun h => HP4.out h.1); have HM4 := Aside0.mk M4.out.lt
      obtain ⟨d', hd'⟩ : ∃ z, z = late d (now + 1) := ⟨_, rfl⟩
      rw [← hd'] at C5 HST3
      have HD' := Aside0.mk hd'
      rw [List.length_map]
      generalize (fun k => P4 k ∧ k < w4.heap.size) = P5 at C5 HP5
      have Z5 := Aside0.mk (show IsDue w5 mb (dj d S 0) D by rw [dj_zero]; exact M5.out)
      clear hv hC hb hk hd' CON C4 M4 B4 M5 E4 ec0 ef0 ec1 ef1 ec2 ef2
      go_wp2_with fail
      go_loopg [62] (S.length + 1) (fun kq v62 w' => ∃ (j : Nat) (Dj : DW), v62 = .int .i64 (j : Int) ∧ Aside0 (j ≤ S.length ∧ j + kq = S.length + 1) ∧ Aside0 (IsDue w' mb (dj d S j) Dj) ∧ Aside0 (Ck w1.heap.size P5 w' g (now + 1) turns d') ∧ Aside0 (Kd.R Kd.string 9 w' w4.heap.size (fun k => w4.heap.size ≤ k) (.slice A5 S.length c5) (S.map Du.nm)) ∧ Aside0 (Below w1.heap.size w1 w'))
      case atStart => exact ⟨0, D, rfl, ⟨by omega, by omega⟩, Z5, C5, L5, B5⟩
      case round =>
        clear Z5 C5 L5 B5
        obtain ⟨j, Dj, rfl, HJ, Z6, C6, L6, B6⟩ := hrel
        generalize wr = w6 at Z6 C6 L6 B6 ⊢
        by_cases hj : j < S.length
        · have f1 : decide ((j : Int) < (S.length : Int)) = true := decide_eq_true (by omega)
          have f2 : decide (j < S.length) = true := decide_eq_true hj
          have f3 : (j < S.length) = True := eq_true hj
          have f4 : (0 : Int) ≤ (j : Int) := by omega
          have f5 : (j : Int) < (S.length : Int) := by omega
          have f6 := eq_true f4; have f7 := eq_true f5; have f8 : decide ((0 : Int) ≤ (j : Int)) = true := decide_eq_true f4
          have NJ := Aside0.mk (nkP hj HJ.out)
          obtain ⟨x, hx⟩ : ∃ z, z = nth S j := ⟨_, rfl⟩
          have HXS := Aside0.mk (show x ∈ S by rw [hx]; exact nth_mem hj)
          have HXD := Aside0.mk (show x ∈ d from (List.mem_filter.1 (HS.out ▸ HXS.out)).1)
          have HXM := Aside0.mk (show x ∈ dj d S j by rw [hx, HS.out]; exact dj_mem NDN.out (HS.out ▸ hj))
          have HXN := Aside0.mk (show but (dj d S j) x.nm = dj d S (j + 1) by rw [hx]; exact dj_next hj)
          have hat := soon_at HST.out.hsoon (HS.out ▸ HXS.out)
          obtain ⟨ad, ce, ee, y0⟩ := str_at L6.out (i := j) (by rw [List.length_map]; exact hj)
          injection ee with ee en ec
          clear en
          subst ee
          have y1 : w6.cell? (ad.add j) = some (.string x.nm) := by rw [y0, hx, nth_eq hj]; simp [List.getD_eq_getElem?_getD, hj]
          have hlk := due_yes Z6.out HXM.out (HZD.out x HXD.out)
          rw [hat] at hlk
          have b3_ : wrap64 ((j : Int) + 1) = ((j + 1 : Nat) : Int) := by have := HSL.out; unfold wrap64; omega
          clear hj f4 f5 hx hat y0 ec
          go_wp2_with fail
          refine (now_calls C6.out).mono ?_
          rintro y w7 ⟨rfl, hb⟩
          have C7 := Aside0.mk (C6.out.below hb); have L7 := Aside0.mk (Kd.R_below L6.out hb); have B7 := Aside0.mk (below_step B6.out hb); have Z7 := Aside0.mk (Z6.out.keep (hb.block mb Z6.out.lt))
          clear hb hlk y1 C6 L6 B6 Z6
          go_wp2_with (first | (at_delete; refine wpList_delete_own _ rfl _ _ 53 9 rfl 3 key9 Try.underlying53 RI mb (dj d S j).length Dj rfl Z7.out.own _ (kl x.nm) rfl (keyOf9 (HZD.out x HXD.out)) ?_; intro w8 hown hturn; have GR8 := Aside0.mk hturn.grown; have Z8 := Aside0.mk (show IsDue w8 mb (dj d S (j + 1)) _ from HXN.out ▸ IsDue.of hown (Z7.out.ok.del (dj_nodup S j NDN.out) HXM.out)); have C8 := Aside0.mk (C7.out.keep (fun k hk hl => GR8.out.block k hl (fun e => by injection e with e; exact HP5.out (e ▸ hk)))); have B8 := Aside0.mk (below_grownN B7.out B7.out.size GR8.out (fun k e => by injection e with e; rw [← e]; exact GM.out)); have L8 := Aside0.mk (Kd.R_mono (Kd.R_move (Kd.R_bound L7.out) (fun k q => GR8.out.block k q.2.2.1 (fun e => by injection e with e; have := q.1; have := HM4.out; omega))) (fun k q => q.1)); clear hown hturn GR8))
          go_roundg (gk - 1)
          case measure => have := NJ.out.2; omega
          case rel => exact ⟨j + 1, _, by (first | rw [b3_] | rfl), ⟨NJ.out.1⟩, Z8, C8, L8, B8⟩
        have f1 : decide ((j : Int) < (S.length : Int)) = false := decide_eq_false (by omega)
        have f2 : decide (j < S.length) = false := decide_eq_false hj
        have f3 : (j < S.length) = False := eq_false hj
        have C9 := Aside0.mk C6.out; have B9 := Aside0.mk B6.out; have HP9 := Aside0.mk HP5.out
        have M9 := Aside0.mk (show IsDue w6 mb d' Dj from by
          have h1 := Z6.out
          rw [show j = S.length by have := HJ.out.1; omega, HS.out, dj_end NDN.out, ← HD'.out] at h1
          exact h1)
        obtain ⟨D9, hD9⟩ : ∃ z, z = Dj := ⟨_, rfl⟩
        rw [← hD9] at M9
        clear hj HJ C6 B6 L6 Z6 hD9
        generalize w6 = w9 at C9 M9 B9 ⊢
        have HST2 := Aside0.mk (show St (i + 1) (now + 1) (turns) d' from HST3.out)
        go_wp2_with fail
        refine (clen_calls C9.out).mono ?_
        rintro y w20 ⟨rfl, hb⟩
        have C20 := Aside0.mk (C9.out.below hb).bnd; have M20 := Aside0.mk (M9.out.keep (hb.block mb M9.out.lt)); have B20 := Aside0.mk (below_step B9.out hb)
        have hsz_ := M20.out.ok.size
        clear hb C9 M9 B9
        go_wp2_with (first | (at_len; refine wpList_len_own _ rfl _ 53 rfl 9 3 Try.underlying53 RI mb d'.length _ rfl M20.out.own ?_) | (at_range; refine wpList_range_own _ rfl _ 53 rfl 9 3 key9 Try.underlying53 RI mb d'.length _ rfl M20.out.own ?_; intro w21 hrg hgr hs21; have RG := Aside0.mk hrg; have GR := Aside0.mk hgr; clear hrg hgr hs21))
        (try go_frame)
        have C21 := Aside0.mk (C20.out.keep (fun k hk hl => GR.out.block k hl (by simp))); have M21 := Aside0.mk (M20.out.keep (GR.out.block mb M20.out.lt (by simp))); have B21 := Aside0.mk (below_grownN B20.out B20.out.size GR.out (fun k e => by simp at e))
        have HMR_ := Aside0.mk M20.out.lt; have RGL_ := Aside0.mk (show w20.heap.size < w21.heap.size from blk_lt_ RG.out); have RGM_ := Aside0.mk B20.out.size
        clear hsz_ C20 M20 B20 GR
        generalize hrr : w20.heap.size = r at RG C21 HMR_ RGL_ RGM_ ⊢
        have HMR := Aside0.mk HMR_.out; have RGL := Aside0.mk RGL_.out; have RGM := Aside0.mk RGM_.out
        obtain ⟨cn, hcn⟩ : ∃ z, z = Maps.size D9 := ⟨_, rfl⟩
        rw [← hcn] at RG
        clear hrr hcn
        go_loopg [] (cn + 1) (fun kq_ w' => ∃ (left : Lit → Bool) (cnt : Nat), Aside0 (kq_ = cnt + 1) ∧ Aside0 (w'.ranges Try.prog 9 RI mb r d'.length D9 left cnt) ∧ Aside0 (∀ l, left l = true → Maps.has D9 l = true) ∧ Aside0 (Ck w1.heap.size (fun k => P5 k ∧ k < r) w' g (now + 1) (turns) d') ∧ Aside0 (IsDue w' mb d' D9) ∧ Aside0 (Below w1.heap.size w1 w') ∧ Aside0 (r < w'.heap.size ∧ w1.heap.size ≤ r))
        case atStart => exact ⟨_, cn, ⟨rfl⟩, RG, ⟨fun l h => h⟩, C21, M21, B21, ⟨by have := RGL.out; omega, by have := RGM.out; omega⟩⟩
        case round =>
          clear RG C21 M21 B21 HMR_ RGL_ RGM_
          obtain ⟨left, cnt, HKQ, RG, HLF, C22, M22, B22, HRL⟩ := hrel
          generalize wr = w22 at RG C22 M22 B22 HRL ⊢
          rcases RG.out.next key9 0 with ⟨h0, hl, hrun⟩ | ⟨key, v, kll, y, w23, cnt', hkey, hlk, hv, hat, hrun, hrg, hlt, hgr, hsz, hen⟩
          · clear h0 hl
            go_wp2_with fail
            clear hrun
            go_roundg (l0.length - i)
            case measure => have := NK.out; have := HI.out; omega
            case rel => exact ⟨i + 1, d', now + 1, turns, _, _, by (first | rw [b2_] | rfl), ⟨by have := NK.out; have := HI.out; omega⟩, C22, M22, ⟨fun h => HP9.out h.1⟩, HST2, B22⟩
          obtain ⟨s', rfl, rfl, -⟩ := WideMaps.string_of_keyOf Try.underlying9 hkey
          obtain ⟨cc, rfl, hy⟩ := RI_inv hv
          subst hy
          have hmem : ∃ x ∈ d', x.nm = s' := by
            have h1 := HLF.out _ hlk
            have h2 := (M22.out.ok.has s').symm.trans h1
            obtain ⟨x, hx, e⟩ := List.any_eq_true.1 h2
            exact ⟨x, hx, by simpa using e⟩
          obtain ⟨x, hx, rfl⟩ := hmem
          have hcc : cc = x.at_ := by
            have h1 := (M22.out.ok.get x hx .nil).symm.trans (hat .nil)
            injection h1 with h1
            injection h1 with _ h1
            exact h1.symm
          subst hcc
          have HX := Aside0.mk hx
          have C23 := Aside0.mk (C22.out.keep (fun k hk hl => hgr.block k hl (fun e => by injection e with e; have := hk.2; omega))); have M23 := Aside0.mk (M22.out.keep (hgr.block mb M22.out.lt (fun e => by injection e with e; have := HMR.out; omega))); have B23 := Aside0.mk (below_grownN B22.out B22.out.size hgr (fun k e => by injection e with e; have := HRL.out; omega))
          have RG3 := Aside0.mk hrg; have HLT := Aside0.mk hlt; have HS3 := Aside0.mk (show r < w23.heap.size ∧ w1.heap.size ≤ r by rw [hsz]; exact HRL.out)
          have HLF3 := Aside0.mk (show ∀ l, (left l && !l.sameKey (Lit.string x.nm.data.toList)) = true → Maps.has D9 l = true from fun l h => HLF.out l (by cases h2 : left l <;> simp [h2] at h ⊢))
          have t1 : decide (x.at_ ≤ now + 1) = false := decide_eq_false (by have := HST2.out.hsoon x hx; omega)
          clear hkey hlk hv hat hrg hlt hgr hsz hx RG C22 M22 B22 HRL HLF
          go_wp2_with fail
          refine (when_yes C23.out HX.out).mono ?_
          rintro y w24 ⟨rfl, hb⟩
          have C24 := Aside0.mk (C23.out.below hb); have M24 := Aside0.mk (M23.out.keep (hb.block mb M23.out.lt)); have B24 := Aside0.mk (below_step B23.out hb); have RG4 := Aside0.mk (RG3.out.below_ hb); have HS4 := Aside0.mk (show r < w24.heap.size ∧ w1.heap.size ≤ r from ⟨Nat.lt_of_lt_of_le HS3.out.1 hb.size, HS3.out.2⟩)
          clear hb C23 M23 B23 RG3 HS3
          go_wp2_with fail
          refine (now_calls C24.out).mono ?_
          rintro y w25 ⟨rfl, hb⟩
          have C25 := Aside0.mk (C24.out.below hb); have M25 := Aside0.mk (M24.out.keep (hb.block mb M24.out.lt)); have B25 := Aside0.mk (below_step B24.out hb); have RG5 := Aside0.mk (RG4.out.below_ hb); have HS5 := Aside0.mk (show r < w25.heap.size ∧ w1.heap.size ≤ r from ⟨Nat.lt_of_lt_of_le HS4.out.1 hb.size, HS4.out.2⟩)
          clear hb C24 M24 B24 RG4 HS4
          go_wp2_with fail
          go_roundg (cnt' + 1)
          case measure => have := HKQ.out; have := HLT.out; omega
          case rel => exact ⟨_, cnt', ⟨rfl⟩, RG5, HLF3, C25, M25, B25, HS5⟩
    have k0 : (kd == 0) = false := beq_eq_false_iff_ne.mpr hk0
    have k1 : (kd == 1) = false := beq_eq_false_iff_ne.mpr hk1
    have k2 : (kd == 2) = false := beq_eq_false_iff_ne.mpr hk2
    have C8 := Aside0.mk C4.out; have M8 := Aside0.mk M4.out; have B8 := Aside0.mk B4.out; have HP8 := Aside0.mk HP4.out
    obtain ⟨D8, hD8⟩ : ∃ z, z = D := ⟨_, rfl⟩
    rw [← hD8] at M8
    clear hk0 hk1 hk2 C4 M4 B4 hD8
    generalize w4 = w8 at C8 M8 B8 E4 ec0 ef0 ec1 ef1 ec2 ef2 ⊢
    have HST2 := Aside0.mk (show St (i + 1) (now) (turns) d from HST.out.up)
    go_wp2_with fail
    refine (clen_calls C8.out).mono ?_
    rintro y w20 ⟨rfl, hb⟩
    have C20 := Aside0.mk (C8.out.below hb).bnd; have M20 := Aside0.mk (M8.out.keep (hb.block mb M8.out.lt)); have B20 := Aside0.mk (below_step B8.out hb)
    have hsz_ := M20.out.ok.size
    clear hb C8 M8 B8
    go_wp2_with (first | (at_len; refine wpList_len_own _ rfl _ 53 rfl 9 3 Try.underlying53 RI mb d.length _ rfl M20.out.own ?_) | (at_range; refine wpList_range_own _ rfl _ 53 rfl 9 3 key9 Try.underlying53 RI mb d.length _ rfl M20.out.own ?_; intro w21 hrg hgr hs21; have RG := Aside0.mk hrg; have GR := Aside0.mk hgr; clear hrg hgr hs21))
    (try go_frame)
    have C21 := Aside0.mk (C20.out.keep (fun k hk hl => GR.out.block k hl (by simp))); have M21 := Aside0.mk (M20.out.keep (GR.out.block mb M20.out.lt (by simp))); have B21 := Aside0.mk (below_grownN B20.out B20.out.size GR.out (fun k e => by simp at e))
    have HMR_ := Aside0.mk M20.out.lt; have RGL_ := Aside0.mk (show w20.heap.size < w21.heap.size from blk_lt_ RG.out); have RGM_ := Aside0.mk B20.out.size
    clear hsz_ C20 M20 B20 GR
    generalize hrr : w20.heap.size = r at RG C21 HMR_ RGL_ RGM_ ⊢
    have HMR := Aside0.mk HMR_.out; have RGL := Aside0.mk RGL_.out; have RGM := Aside0.mk RGM_.out
    obtain ⟨cn, hcn⟩ : ∃ z, z = Maps.size D8 := ⟨_, rfl⟩
    rw [← hcn] at RG
    clear hrr hcn
    go_loopg [] (cn + 1) (fun kq_ w' => ∃ (left : Lit → Bool) (cnt : Nat), Aside0 (kq_ = cnt + 1) ∧ Aside0 (w'.ranges Try.prog 9 RI mb r d.length D8 left cnt) ∧ Aside0 (∀ l, left l = true → Maps.has D8 l = true) ∧ Aside0 (Ck w1.heap.size (fun k => P4 k ∧ k < r) w' g (now) (turns) d) ∧ Aside0 (IsDue w' mb d D8) ∧ Aside0 (Below w1.heap.size w1 w') ∧ Aside0 (r < w'.heap.size ∧ w1.heap.size ≤ r))
    case atStart => exact ⟨_, cn, ⟨rfl⟩, RG, ⟨fun l h => h⟩, C21, M21, B21, ⟨by have := RGL.out; omega, by have := RGM.out; omega⟩⟩
    case round =>
      clear RG C21 M21 B21 HMR_ RGL_ RGM_
      obtain ⟨left, cnt, HKQ, RG, HLF, C22, M22, B22, HRL⟩ := hrel
      generalize wr = w22 at RG C22 M22 B22 HRL ⊢
      rcases RG.out.next key9 0 with ⟨h0, hl, hrun⟩ | ⟨key, v, kll, y, w23, cnt', hkey, hlk, hv, hat, hrun, hrg, hlt, hgr, hsz, hen⟩
      · clear h0 hl
        go_wp2_with fail
        clear hrun
        go_roundg (l0.length - i)
        case measure => have := NK.out; have := HI.out; omega
        case rel => exact ⟨i + 1, d, now, turns, _, _, by (first | rw [b2_] | rfl), ⟨by have := NK.out; have := HI.out; omega⟩, C22, M22, ⟨fun h => HP8.out h.1⟩, HST2, B22⟩
      obtain ⟨s', rfl, rfl, -⟩ := WideMaps.string_of_keyOf Try.underlying9 hkey
      obtain ⟨cc, rfl, hy⟩ := RI_inv hv
      subst hy
      have hmem : ∃ x ∈ d, x.nm = s' := by
        have h1 := HLF.out _ hlk
        have h2 := (M22.out.ok.has s').symm.trans h1
        obtain ⟨x, hx, e⟩ := List.any_eq_true.1 h2
        exact ⟨x, hx, by simpa using e⟩
      obtain ⟨x, hx, rfl⟩ := hmem
      have hcc : cc = x.at_ := by
        have h1 := (M22.out.ok.get x hx .nil).symm.trans (hat .nil)
        injection h1 with h1
        injection h1 with _ h1
        exact h1.symm
      subst hcc
      have HX := Aside0.mk hx
      have C23 := Aside0.mk (C22.out.keep (fun k hk hl => hgr.block k hl (fun e => by injection e with e; have := hk.2; omega))); have M23 := Aside0.mk (M22.out.keep (hgr.block mb M22.out.lt (fun e => by injection e with e; have := HMR.out; omega))); have B23 := Aside0.mk (below_grownN B22.out B22.out.size hgr (fun k e => by injection e with e; have := HRL.out; omega))
      have RG3 := Aside0.mk hrg; have HLT := Aside0.mk hlt; have HS3 := Aside0.mk (show r < w23.heap.size ∧ w1.heap.size ≤ r by rw [hsz]; exact HRL.out)
      have HLF3 := Aside0.mk (show ∀ l, (left l && !l.sameKey (Lit.string x.nm.data.toList)) = true → Maps.has D8 l = true from fun l h => HLF.out l (by cases h2 : left l <;> simp [h2] at h ⊢))
      have t1 : decide (x.at_ ≤ now) = false := decide_eq_false (by have := HST2.out.hsoon x hx; omega)
      clear hkey hlk hv hat hrg hlt hgr hsz hx RG C22 M22 B22 HRL HLF
      go_wp2_with fail
      refine (when_yes C23.out HX.out).mono ?_
      rintro y w24 ⟨rfl, hb⟩
      have C24 := Aside0.mk (C23.out.below hb); have M24 := Aside0.mk (M23.out.keep (hb.block mb M23.out.lt)); have B24 := Aside0.mk (below_step B23.out hb); have RG4 := Aside0.mk (RG3.out.below_ hb); have HS4 := Aside0.mk (show r < w24.heap.size ∧ w1.heap.size ≤ r from ⟨Nat.lt_of_lt_of_le HS3.out.1 hb.size, HS3.out.2⟩)
      clear hb C23 M23 B23 RG3 HS3
      go_wp2_with fail
      refine (now_calls C24.out).mono ?_
      rintro y w25 ⟨rfl, hb⟩
      have C25 := Aside0.mk (C24.out.below hb); have M25 := Aside0.mk (M24.out.keep (hb.block mb M24.out.lt)); have B25 := Aside0.mk (below_step B24.out hb); have RG5 := Aside0.mk (RG4.out.below_ hb); have HS5 := Aside0.mk (show r < w25.heap.size ∧ w1.heap.size ≤ r from ⟨Nat.lt_of_lt_of_le HS4.out.1 hb.size, HS4.out.2⟩)
      clear hb C24 M24 B24 RG4 HS4
      go_wp2_with fail
      go_roundg (cnt' + 1)
      case measure => have := HKQ.out; have := HLT.out; omega
      case rel => exact ⟨_, cnt', ⟨rfl⟩, RG5, HLF3, C25, M25, B25, HS5⟩
end Go.Proofs.Ytdodaepdghlolaa.Pure
