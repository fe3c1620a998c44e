/-
  The clock in memory: New, Now, Len, When.
-/
import Derived.Maps.OwnSet
import Derived.Maps.RangeWalk
import Derived.Test.YtdodaepdghlolaaOClk5
import Derived.Test.YtdodaepdghlolaaPClk
namespace Go.Proofs.Ytdodaepdghlolaa.Pure.Clk
open Go.RowKit Go.Proofs.Ytdodaepdghlolaa.M Go.Proofs.YtdodaepdghlolaaW.PrintWords Go.Proofs.YtdodaepdghlolaaW.PrintLast Go.Proofs.YtdodaepdghlolaaW.PrintMore Go.Proofs.Ytdodaepdghlolaa.Pure
set_option linter.unusedVariables false
set_option linter.unusedSimpArgs false
open Go.Maps (Keyed)
abbrev DW := DataW Unit
def kl (s : ByteArray) : Lit := .string s.data.toList
/-- a pointer reads as its block -/
def RB : Value → Option (DW × List MemPlace)
  | .pointer (some ⟨b, 0, none⟩) => some (.lit (.int .i64 (b : Int)), [])
  | .pointer none => some (.nil, [])
  | _ => none
theorem RB_ptr (b : Nat) : RB (.pointer (some ⟨b, 0, none⟩)) = some (.lit (.int .i64 (b : Int)), []) := rfl
theorem RB_inv {v : Value} {b : Nat} {ps : List MemPlace} (h : RB v = some (.lit (.int .i64 (b : Int)), ps)) : v = .pointer (some ⟨b, 0, none⟩) := by
  unfold RB at h
  split at h
  · injection h with h
    injection h with h _
    injection h with h
    injection h with _ h
    have : (_ : Nat) = b := Int.ofNat_inj.1 h
    rw [this]
  · simp at h
  · simp at h
theorem RB_nil {v : Value} {ps : List MemPlace} (h : RB v = some (.nil, ps)) : v = .pointer none := by
  unfold RB at h
  split at h
  · simp at h
  · rfl
  · simp at h
theorem kl_inj {a b : ByteArray} (h : kl a = kl b) : a = b := by
  unfold kl at h
  injection h with h
  cases a; cases b
  simp at h
  rw [h]
theorem kl_key (s : ByteArray) : WideAt.IsKeyLit (kl s) := trivial
structure MapOK (D : DW) (d : List Du) : Prop where
  tidy : Maps.Tidy D
  size : Maps.size D = d.length
  has : ∀ s, Maps.has D (kl s) = d.any (fun x => decide (x.nm = s))
  get : ∀ x ∈ d, D.atKey (kl x.nm) .nil = .lit (.int .i64 (x.bk : Int))
theorem MapOK.empty : MapOK (.map []) [] := ⟨Maps.tidy_empty, rfl, fun s => rfl, fun x hx => by cases hx⟩
theorem any_no {d : List Du} {s : ByteArray} (h : ∀ x ∈ d, x.nm ≠ s) : d.any (fun x => decide (x.nm = s)) = false := by
  rw [List.any_eq_false]
  intro x hx
  simpa using h x hx
theorem any_yes {d : List Du} {x : Du} (h : x ∈ d) : d.any (fun y => decide (y.nm = x.nm)) = true := List.any_eq_true.2 ⟨x, h, by simp⟩
theorem but_any (d : List Du) {s t : ByteArray} (e : s ≠ t) : (but d t).any (fun x => decide (x.nm = s)) = d.any (fun x => decide (x.nm = s)) := by
  rw [Bool.eq_iff_iff, List.any_eq_true, List.any_eq_true]
  constructor
  · rintro ⟨x, hx, hs⟩
    exact ⟨x, (List.mem_filter.1 hx).1, hs⟩
  · rintro ⟨x, hx, hs⟩
    exact ⟨x, List.mem_filter.2 ⟨hx, by simp at hs ⊢; rw [hs]; exact e⟩, hs⟩
theorem MapOK.put {D : DW} {d : List Du} (h : MapOK D d) {x : Du} (hx : ∀ y ∈ d, y.nm ≠ x.nm) : MapOK (D.put (kl x.nm) (.lit (.int .i64 (x.bk : Int)))) (d ++ [x]) := by
  have h0 : Maps.has D (kl x.nm) = false := (h.has _).trans (any_no hx)
  refine ⟨h.tidy.put (kl_key _) _, ?_, fun s => ?_, fun y hy => ?_⟩
  · rw [Maps.size_put h.tidy, h0]; simp [h.size]
  · rw [List.any_append]
    by_cases e : s = x.nm
    · subst e
      rw [Maps.has_put_same h.tidy.isMap (kl_key _)]
      simp
    · rw [Maps.has_put_other (fun e2 => e (kl_inj e2)), h.has]
      have : decide (x.nm = s) = false := decide_eq_false (fun e2 => e e2.symm)
      simp [this]
  · rcases List.mem_append.1 hy with hy | hy
    · rw [Maps.atKey_put_other (fun e2 => hx y hy (kl_inj e2))]
      exact h.get y hy
    · rw [List.mem_singleton] at hy
      subst hy
      exact Maps.atKey_put_same h.tidy.isMap (kl_key _) _ _
theorem MapOK.del {D : DW} {d : List Du} (h : MapOK D d) (hn : (d.map Du.nm).Nodup) {x : Du} (hx : x ∈ d) : MapOK (D.del (kl x.nm)) (but d x.nm) := by
  have h0 : Maps.has D (kl x.nm) = true := (h.has _).trans (any_yes hx)
  refine ⟨h.tidy.del _, ?_, fun s => ?_, fun y hy => ?_⟩
  · have h1 := Maps.size_del (k := kl x.nm) h.tidy
    rw [h0] at h1
    have h2 := but_len hx hn
    have h3 := h.size
    simp at h1
    omega
  · by_cases e : s = x.nm
    · subst e
      rw [Maps.has_del_same]
      exact (any_no (fun y hy => by simpa using (List.mem_filter.1 hy).2)).symm
    · rw [Maps.has_del_other (fun e2 => e (kl_inj e2)), h.has]
      exact (but_any d e).symm
  · have hy2 := List.mem_filter.1 hy
    rw [Maps.atKey_del_other (fun e2 => by have := hy2.2; simp at this; exact this (kl_inj e2))]
    exact h.get y hy2.1
theorem MapOK.reset {D : DW} {d : List Du} (h : MapOK D d) (hn : (d.map Du.nm).Nodup) {x x' : Du} (hx : x ∈ d) (e1 : x'.nm = x.nm) (e2 : x'.bk = x.bk) : MapOK D (but d x.nm ++ [x']) := by
  refine ⟨h.tidy, ?_, fun s => ?_, fun y hy => ?_⟩
  · rw [h.size, List.length_append, List.length_singleton, but_len hx hn]
  · rw [h.has, List.any_append]
    by_cases e : s = x.nm
    · subst e
      rw [any_yes hx]
      simp [e1]
    · have : decide (x'.nm = s) = false := decide_eq_false (fun e3 => e (by rw [← e3, e1]))
      simp only [List.any_cons, List.any_nil, this, Bool.or_false]
      exact (but_any d e).symm
  · rcases List.mem_append.1 hy with hy | hy
    · exact h.get y (List.mem_filter.1 hy).1
    · rw [List.mem_singleton] at hy
      subst hy
      rw [e1, e2]
      exact h.get x hx
variable {N : Nat} {P P' : Nat → Prop} {w w' : World} {g : Nat} {now turns : Int} {m : Nat} {q d : List Du} {A : Option Addr} {c : Nat}
theorem key9 : Keyed Try.prog 9 := Maps.string_keyed Try.underlying9
theorem keyOf9 {s : ByteArray} (hs : s.size ≤ 9223372036854775807) : keyOf Try.prog 9 (.string s) = some (kl s) := Go.WideMaps.keyOf_string_mk Try.underlying9 hs
theorem zero60 (w : World) : (zeroValue 60).run Try.prog w = .ok (.pointer none) w := by go_simp
theorem ownsMap_keep {m n : Nat} {D : DW} (h : w.ownsMap Try.prog 9 RB m n D) (e : w'.heap[m]? = w.heap[m]?) : w'.ownsMap Try.prog 9 RB m n D := by
  obtain ⟨es, clock, hb, r⟩ := h
  exact ⟨es, clock, e.trans hb, r⟩
theorem ownsMap_tight {m n : Nat} {D : DW} (h : w.ownsMap Try.prog 9 RB m n D) : w.ownsMap Try.prog 9 RB m (Maps.size D) D := by
  obtain ⟨es, clock, hb, F, hs, rfl⟩ := h
  exact ⟨es, clock, hb, F, by simp [Maps.size, length_sorted], rfl⟩
/-- the map of a clock -/
structure IsMp (w : World) (m : Nat) (d : List Du) (D : DW) : Prop where
  own : w.ownsMap Try.prog 9 RB m d.length D
  ok : MapOK D d
theorem IsMp.keep {D : DW} (h : IsMp w m d D) (e : w'.heap[m]? = w.heap[m]?) : IsMp w' m d D := ⟨ownsMap_keep h.own e, h.ok⟩
theorem IsMp.lt {D : DW} (h : IsMp w m d D) : m < w.heap.size := by
  obtain ⟨es, clock, hb, _⟩ := h.own
  exact (Array.getElem?_eq_some_iff.1 hb).1
theorem look_yes {D : DW} (h : IsMp w m d D) {x : Du} (hx : x ∈ d) (hs : x.nm.size ≤ 9223372036854775807) : (Instr.lookup 55 (.map (some m)) (.string x.nm) true).run Try.prog w = .ok (.tuple #[.pointer (some ⟨x.bk, 0, none⟩), .bool true]) w := by
  obtain ⟨v, ps, hr, hv⟩ := h.own.look_ok key9 Try.underlying55 (zero60 w) (zd := .nil) (zp := []) rfl (keyOf9 hs)
  rw [h.ok.get x hx] at hv
  rw [RB_inv hv, (h.ok.has _).trans (any_yes hx)] at hr
  exact hr
theorem look_no {D : DW} (h : IsMp w m d D) {s : ByteArray} (hx : ∀ x ∈ d, x.nm ≠ s) (hs : s.size ≤ 9223372036854775807) : (Instr.lookup 55 (.map (some m)) (.string s) true).run Try.prog w = .ok (.tuple #[.pointer none, .bool false]) w := by
  obtain ⟨v, ps, hr, hv⟩ := h.own.look_ok key9 Try.underlying55 (zero60 w) (zd := .nil) (zp := []) rfl (keyOf9 hs)
  have h0 : Maps.has D (kl s) = false := (h.ok.has _).trans (any_no hx)
  rw [Maps.atKey_of_not_has h0] at hv
  rw [RB_nil hv, h0] at hr
  exact hr
/-- a clock at block g: what time it is, how many turns, what is due -/
structure IsK (N : Nat) (P : Nat → Prop) (w : World) (g : Nat) (now turns : Int) (d : List Du) (m : Nat) (q : List Du) (A : Option Addr) (c : Nat) (D : DW) : Prop where
  isq : IsQ N (fun k => P k ∧ k ≠ m) w g now turns m q A c
  perm : q.Perm d
  hp : Hp q q.length
  map : IsMp w m d D
  nm : N ≤ m
  pm : P m
  good : Good now turns d
def Ck (N : Nat) (P : Nat → Prop) (w : World) (g : Nat) (now turns : Int) (d : List Du) : Prop := ∃ m q A c D, IsK N P w g now turns d m q A c D
theorem Ck.below (h : Ck N P w g now turns d) (hb : Below w.heap.size w w') : Ck N P w' g now turns d := by
  obtain ⟨m, q, A, c, D, h⟩ := h
  exact ⟨m, q, A, c, D, h.isq.below hb, h.perm, h.hp, h.map.keep (hb.block m h.map.lt), h.nm, h.pm, h.good⟩
theorem Ck.drew (h : Ck N P w g now turns d) : Ck N P w.drew g now turns d := h.below (below_drew (Below.refl _ _))
theorem Ck.mono (h : Ck N P w g now turns d) (hp : ∀ k, P k → P' k) : Ck N P' w g now turns d := by
  obtain ⟨m, q, A, c, D, h⟩ := h
  exact ⟨m, q, A, c, D, h.isq.mono (fun k hk => ⟨hp k hk.1, hk.2⟩), h.perm, h.hp, h.map, h.nm, hp _ h.pm, h.good⟩
theorem Ck.lt (h : Ck N P w g now turns d) : g < w.heap.size := by
  obtain ⟨m, q, A, c, D, h⟩ := h
  exact blk_lt h.isq.hg
theorem IsQ.keep (h : IsQ N P w g now turns m q A c) (hk : ∀ k, P k → k < w.heap.size → w'.heap[k]? = w.heap[k]?) : IsQ N P w' g now turns m q A c :=
  ⟨(hk _ h.pg (blk_lt h.hg)).trans h.hg, h.ng, h.pg, Kd.R_mono (Kd.R_move (Kd.R_bound h.row) (fun k q => hk k q.1 q.2.2.1)) (fun k q => q.1), fun i hi => ⟨(hk _ (h.due i hi).2.2 (blk_lt (h.due i hi).1)).trans (h.due i hi).1, (h.due i hi).2⟩⟩
theorem Ck.keep (h : Ck N P w g now turns d) (hk : ∀ k, P k → k < w.heap.size → w'.heap[k]? = w.heap[k]?) : Ck N P w' g now turns d := by
  obtain ⟨m, q, A, c, D, h⟩ := h
  exact ⟨m, q, A, c, D, h.isq.keep (fun k q hl => hk k q.1 hl), h.perm, h.hp, h.map.keep (hk _ h.pm h.map.lt), h.nm, h.pm, h.good⟩
/-- its blocks are there, and not younger -/
theorem IsQ.bnd (h : IsQ N P w g now turns m q A c) : IsQ N (fun k => P k ∧ k < w.heap.size) w g now turns m q A c :=
  ⟨h.hg, h.ng, ⟨h.pg, blk_lt h.hg⟩, Kd.R_mono (Kd.R_bound h.row) (fun k q => ⟨q.1, q.2.2.1⟩), fun i hi => ⟨(h.due i hi).1, (h.due i hi).2.1, (h.due i hi).2.2, blk_lt (h.due i hi).1⟩⟩
theorem Ck.bnd (h : Ck N P w g now turns d) : Ck N (fun k => P k ∧ k < w.heap.size) w g now turns d := by
  obtain ⟨m, q, A, c, D, h⟩ := h
  exact ⟨m, q, A, c, D, h.isq.bnd.mono (fun k q => ⟨⟨q.1.1, q.2⟩, q.1.2⟩), h.perm, h.hp, h.map, h.nm, ⟨h.pm, h.map.lt⟩, h.good⟩
set_option maxHeartbeats 8000000 in
set_option maxRecDepth 100000 in
theorem now_calls (h : Ck N P w g now turns d) : Calls Try.prog 14 #[.pointer (some ⟨g, 0, none⟩)] w fun e w' => e = .returned (.int .i64 now) ∧ Below w.heap.size w w' := by
  obtain ⟨m, q, A, c, D, h⟩ := h
  have H := Aside0.mk h
  have zc0 : w.cell? ⟨g, 0, none⟩ = some (.int .i64 now) := (blk_cell h.isq.hg 0).trans rfl; have zf0 := blk_frozen h.isq.hg 0; have zc1 : w.cell? ⟨g, 1, none⟩ = some (.int .i64 turns) := (blk_cell h.isq.hg 1).trans rfl; have zf1 := blk_frozen h.isq.hg 1; have zc2 : w.cell? ⟨g, 2, none⟩ = some (.slice A q.length c) := (blk_cell h.isq.hg 2).trans rfl; have zf2 := blk_frozen h.isq.hg 2; have zc3 : w.cell? ⟨g, 3, none⟩ = some (.map (some m)) := (blk_cell h.isq.hg 3).trans rfl; have zf3 := blk_frozen h.isq.hg 3
  have B0 := Aside0.mk (Below.refl w.heap.size w)
  clear h
  go_enter Try.func14, Try.ntmps14
  go_wp2_with fail
  go_ret
  exact ⟨rfl, B0.out⟩
set_option maxHeartbeats 8000000 in
set_option maxRecDepth 100000 in
theorem clen_calls (h : Ck N P w g now turns d) : Calls Try.prog 12 #[.pointer (some ⟨g, 0, none⟩)] w fun e w' => e = .returned (.int .i64 (d.length : Int)) ∧ Below w.heap.size w w' := by
  obtain ⟨m, q, A, c, D, h⟩ := h
  have H := Aside0.mk h
  have zc0 : w.cell? ⟨g, 0, none⟩ = some (.int .i64 now) := (blk_cell h.isq.hg 0).trans rfl; have zf0 := blk_frozen h.isq.hg 0; have zc1 : w.cell? ⟨g, 1, none⟩ = some (.int .i64 turns) := (blk_cell h.isq.hg 1).trans rfl; have zf1 := blk_frozen h.isq.hg 1; have zc2 : w.cell? ⟨g, 2, none⟩ = some (.slice A q.length c) := (blk_cell h.isq.hg 2).trans rfl; have zf2 := blk_frozen h.isq.hg 2; have zc3 : w.cell? ⟨g, 3, none⟩ = some (.map (some m)) := (blk_cell h.isq.hg 3).trans rfl; have zf3 := blk_frozen h.isq.hg 3
  have B0 := Aside0.mk (Below.refl w.heap.size w)
  have HL := Aside0.mk h.perm.length_eq
  clear h
  go_enter Try.func12, Try.ntmps12
  go_wp2_with fail
  go_ret
  exact ⟨by rw [HL.out]; rfl, B0.out⟩
set_option maxHeartbeats 8000000 in
set_option maxRecDepth 100000 in
theorem when_no (h : Ck N P w g now turns d) {s : ByteArray} (hs : s.size ≤ 9223372036854775807) (hn : ∀ x ∈ d, x.nm ≠ s) : Calls Try.prog 18 #[.pointer (some ⟨g, 0, none⟩), .string s] w fun e w' => e = .returned (.tuple #[.int .i64 0, .bool false]) ∧ Below w.heap.size w w' := by
  obtain ⟨m, q, A, c, D, h⟩ := h
  have H := Aside0.mk h
  have zc0 : w.cell? ⟨g, 0, none⟩ = some (.int .i64 now) := (blk_cell h.isq.hg 0).trans rfl; have zf0 := blk_frozen h.isq.hg 0; have zc1 : w.cell? ⟨g, 1, none⟩ = some (.int .i64 turns) := (blk_cell h.isq.hg 1).trans rfl; have zf1 := blk_frozen h.isq.hg 1; have zc2 : w.cell? ⟨g, 2, none⟩ = some (.slice A q.length c) := (blk_cell h.isq.hg 2).trans rfl; have zf2 := blk_frozen h.isq.hg 2; have zc3 : w.cell? ⟨g, 3, none⟩ = some (.map (some m)) := (blk_cell h.isq.hg 3).trans rfl; have zf3 := blk_frozen h.isq.hg 3
  have B0 := Aside0.mk (Below.refl w.heap.size w)
  have hlk := look_no h.map hn hs
  clear h hn hs
  go_enter Try.func18, Try.ntmps18
  go_wp2_with fail
  go_ret2
  exact ⟨rfl, B0.out⟩
set_option maxHeartbeats 8000000 in
set_option maxRecDepth 100000 in
theorem when_yes (h : Ck N P w g now turns d) {x : Du} (hx : x ∈ d) : Calls Try.prog 18 #[.pointer (some ⟨g, 0, none⟩), .string x.nm] w fun e w' => e = .returned (.tuple #[.int .i64 x.at_, .bool true]) ∧ Below w.heap.size w w' := by
  obtain ⟨m, q, A, c, D, h⟩ := h
  have H := Aside0.mk h
  have zc0 : w.cell? ⟨g, 0, none⟩ = some (.int .i64 now) := (blk_cell h.isq.hg 0).trans rfl; have zf0 := blk_frozen h.isq.hg 0; have zc1 : w.cell? ⟨g, 1, none⟩ = some (.int .i64 turns) := (blk_cell h.isq.hg 1).trans rfl; have zf1 := blk_frozen h.isq.hg 1; have zc2 : w.cell? ⟨g, 2, none⟩ = some (.slice A q.length c) := (blk_cell h.isq.hg 2).trans rfl; have zf2 := blk_frozen h.isq.hg 2; have zc3 : w.cell? ⟨g, 3, none⟩ = some (.map (some m)) := (blk_cell h.isq.hg 3).trans rfl; have zf3 := blk_frozen h.isq.hg 3
  have B0 := Aside0.mk (Below.refl w.heap.size w)
  have hlk := look_yes h.map hx (h.good.all x hx).2.2.2.2
  obtain ⟨i, hi, e⟩ := mem_at (h.perm.mem_iff.2 hx)
  have hd := (h.isq.due i hi).1
  rw [e] at hd
  have y1 : w.cell? ⟨x.bk, 1, none⟩ = some (.int .i64 x.at_) := (blk_cell hd 1).trans rfl
  clear h hx hi e hd
  go_enter Try.func18, Try.ntmps18
  go_wp2_with fail
  go_ret2
  exact ⟨rfl, B0.out⟩
set_option maxHeartbeats 8000000 in
set_option maxRecDepth 100000 in
theorem new_calls (w : World) : Calls Try.prog 9 #[] w fun e w' => (∃ g, e = .returned (.pointer (some ⟨g, 0, none⟩)) ∧ Ck w.heap.size (fun k => w.heap.size ≤ k) w' g 0 0 []) ∧ Below w.heap.size w w' := by
  have hmk : (Instr.makeMap 55 none).run Try.prog w = .ok (.map (some w.heap.size)) (w.alloc (.map #[] 0)) := run_makeMap 55 w
  have M1 := Aside0.mk (show IsMp (w.alloc (.map #[] 0)) w.heap.size [] (.map []) from ⟨World.ownsMap_made w Try.prog 9 RB, MapOK.empty⟩)
  have B1 := Aside0.mk (below_alloc (Below.refl w.heap.size w) (.map #[] 0))
  have S1 := Aside0.mk (show (w.alloc (.map #[] 0)).heap.size = w.heap.size + 1 from Array.size_push ..)
  generalize w.alloc (.map #[] 0) = W1 at hmk M1 B1 S1
  go_enter Try.func9, Try.ntmps9
  go_wp2_with (first | ((with_reducible refine gate_dst (N := 3) rfl ?_); refine box_event ?hg (N := 3) ?hd (cs := #[.int .i64 0, .int .i64 0, .slice none 0 0, .map (some w.heap.size)]) (t := 59) ?hr ?_; (case hd => rfl); (case hg => rfl); (case hr => first | (go_simp; done) | (go_simp; rfl)); intro g3 hg w2 hbox hb; have B2 := Aside0.mk (below_step B1.out hb); have X2 := Aside0.mk hbox; have M2 := Aside0.mk (M1.out.keep (hb.block _ M1.out.lt)); have G2 := Aside0.mk (show g3 = W1.heap.size from hg); clear hb hg hbox))
  go_ret
  have hne : g3 ≠ w.heap.size := by have := G2.out; have := S1.out; omega
  refine ⟨⟨g3, rfl, w.heap.size, [], none, 0, .map [], ⟨X2.out, by have := G2.out; have := S1.out; omega, ⟨by have := G2.out; have := S1.out; omega, hne⟩, Kd.R_nil _ _ _ _ _, fun i hi => absurd hi (Nat.not_lt_zero _)⟩, List.Perm.refl _, fun c c0 cn => absurd cn (Nat.not_lt_zero _), M2.out, Nat.le_refl _, Nat.le_refl _, ⟨List.nodup_nil, fun x hx => (by cases hx), List.Pairwise.nil, ⟨by decide, by decide, by decide⟩, by decide⟩⟩, B2.out⟩
end Go.Proofs.Ytdodaepdghlolaa.Pure.Clk
