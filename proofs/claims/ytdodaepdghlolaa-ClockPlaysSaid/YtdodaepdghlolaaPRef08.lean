/-
  The document's clock, plainly: its list is what is due, in the order in which it was set.
-/
import Derived.Test.YtdodaepdghlolaaMx1
import Derived.Test.YtdodaepdghlolaaPClk
import Derived.Test.YtdodaepdghlolaaPStr
namespace Go.Proofs.Ytdodaepdghlolaa.Pure.Clk
open Go.RowKit Go.Proofs.Ytdodaepdghlolaa.M Go.Proofs.YtdodaepdghlolaaW.PrintWords Go.Proofs.YtdodaepdghlolaaW.PrintLast Go.Proofs.YtdodaepdghlolaaW.PrintMore Go.Proofs.Ytdodaepdghlolaa.Pure
set_option linter.unusedVariables false
set_option linter.unusedSimpArgs false
def V (d : List Du) : List S51 := d.map (fun x => ⟨x.nm, x.at_⟩)
theorem V_len (d : List Du) : (V d).length = d.length := by simp [V]
theorem V_app (a b : List Du) : V (a ++ b) = V a ++ V b := by simp [V]
theorem V_at (a b : List Du) (x : Du) : rd_T51 (V (a ++ x :: b)) (a.length : Int) = ⟨x.nm, x.at_⟩ := by
  unfold rd_T51
  rw [Int.toNat_natCast, V_app]
  have : (V a).length = a.length := V_len a
  simp [V, List.getD_eq_getElem?_getD]
theorem nm_iff (s t : ByteArray) : s.toList = t.toList ↔ s = t := ⟨fun h => bs_inj ((toList_eq_iff s t).mp h), fun h => by rw [h]⟩
/-- the place of a name, from i on, or -1 -/
def fi : List Du → ByteArray → Int → Int
  | [], _, _ => -1
  | x :: d, s, i => if x.nm = s then i else fi d s (i + 1)
theorem fi_no {d : List Du} {s : ByteArray} (h : ∀ x ∈ d, x.nm ≠ s) (i : Int) : fi d s i = -1 := by
  induction d generalizing i with
  | nil => rfl
  | cons x d ih =>
    unfold fi
    rw [if_neg (h x (by simp))]
    exact ih (fun y hy => h y (by simp [hy])) _
theorem fi_at {a b : List Du} {x : Du} (h : ∀ y ∈ a, y.nm ≠ x.nm) (i : Int) : fi (a ++ x :: b) x.nm i = i + a.length := by
  induction a generalizing i with
  | nil => simp [fi]
  | cons y a ih =>
    rw [List.cons_append]
    unfold fi
    rw [if_neg (h y (by simp)), ih (fun z hz => h z (by simp [hz]))]
    simp; omega
theorem find_l0 (now : Int) (s : ByteArray) : ∀ (b a : List Du), (a ++ b).length ≤ 1000000 → Ev (fun k => contraref08_Find.l0 k s (a.length : Int) now (V (a ++ b))) (fi b s a.length) := by
  intro b
  induction b with
  | nil =>
    intro a h
    refine Ev.up ?_
    simp only [contraref08_Find.l0]
    refine Ev.neg (by rw [V_len]; simp) (Ev.some_ rfl)
  | cons x b ih =>
    intro a h
    refine Ev.up ?_
    simp only [contraref08_Find.l0]
    refine Ev.pos (by rw [V_len]; simp; omega) (Ev.pos (by omega) ?_)
    rw [V_at]
    unfold fi
    by_cases e : x.nm = s
    · rw [if_pos e]
      exact Ev.pos ((nm_iff _ _).2 e) (Ev.some_ rfl)
    · rw [if_neg e]
      refine Ev.neg (fun h => e ((nm_iff _ _).1 h)) ?_
      have e1 : wrap64 ((a.length : Int) + 1) = ((a ++ [x]).length : Int) := by simp at h ⊢; unfold wrap64; omega
      rw [e1, show a ++ x :: b = (a ++ [x]) ++ b by simp]
      have := ih (a ++ [x]) (by simp at h ⊢; omega)
      rw [show (a.length : Int) + 1 = ((a ++ [x]).length : Int) by simp]
      exact this
theorem find_ev {d : List Du} (now : Int) (s : ByteArray) (h : d.length ≤ 1000000) : Ev (fun k => contraref08_Find.f k now (V d) s) (fi d s 0) := find_l0 now s d [] (by simpa using h)
theorem without_ev {a b : List Du} {x : Du} (h : (a ++ x :: b).length ≤ 1000000) : contraref08_without.f (V (a ++ x :: b)) (a.length : Int) = some (V (a ++ b)) := by
  have hl : (V a).length = a.length := V_len a
  have e1 : wrap64 ((a.length : Int) + 1) = ((a.length + 1 : Nat) : Int) := by simp at h; unfold wrap64; omega
  have t1 : (V (a ++ x :: b)).take (a.length : Int).toNat = V a := by rw [Int.toNat_natCast, V_app, ← hl, List.take_left']; rfl
  have t2 : (V (a ++ x :: b)).drop ((a.length + 1 : Nat) : Int).toNat = V b := by
    rw [Int.toNat_natCast, show a ++ x :: b = (a ++ [x]) ++ b by simp, V_app]
    have : (V (a ++ [x])).length = a.length + 1 := by rw [V_len]; simp
    rw [← this, List.drop_left']; rfl
  unfold contraref08_without.f
  rw [e1]
  simp only [Option.bind_some]
  rw [if_pos (by omega), if_pos (by rw [V_len]; simp; omega), t1, if_pos (by simp at h ⊢; rw [hl]; omega), if_pos (by omega), if_pos (by rw [V_len]; simp; omega), t2, if_pos (by simp at h ⊢; rw [hl, V_len]; omega)]
  simp [V_app]
/-- a name stands at one place -/
theorem any_no' {d : List Du} {s : ByteArray} (h : ∀ x ∈ d, x.nm ≠ s) : d.any (fun x => decide (x.nm = s)) = false := by
  rw [List.any_eq_false]
  intro x hx
  simpa using h x hx
theorem any_yes' {d : List Du} {x : Du} (h : x ∈ d) : d.any (fun y => decide (y.nm = x.nm)) = true := List.any_eq_true.2 ⟨x, h, by simp⟩
theorem split_at {d : List Du} (hn : (d.map Du.nm).Nodup) {x : Du} (hx : x ∈ d) : ∃ a b, d = a ++ x :: b ∧ (∀ y ∈ a, y.nm ≠ x.nm) ∧ but d x.nm = a ++ b := by
  obtain ⟨a, b, rfl⟩ := List.append_of_mem hx
  rw [List.map_append, List.map_cons, List.nodup_append] at hn
  have ha2 : ∀ y ∈ a, y.nm ≠ x.nm := fun y hy e => hn.2.2 y.nm (List.mem_map_of_mem hy) x.nm (by simp) e
  have hb2 : ∀ y ∈ b, y.nm ≠ x.nm := fun y hy e => by
    have := List.nodup_cons.1 hn.2.1
    exact this.1 (e ▸ List.mem_map_of_mem hy)
  refine ⟨a, b, rfl, ha2, ?_⟩
  unfold but
  rw [List.filter_append, List.filter_cons, if_neg (by simp), List.filter_eq_self.2 (fun y hy => by simpa using ha2 y hy), List.filter_eq_self.2 (fun y hy => by simpa using hb2 y hy)]
theorem drop_ev {d : List Du} (now : Int) (s : ByteArray) (h : d.length ≤ 1000000) (hn : (d.map Du.nm).Nodup) : Ev (fun k => contraref08_Drop.f k now (V d) s) (now, V (but d s), if d.any (fun x => decide (x.nm = s)) then 0 else 4) := by
  unfold contraref08_Drop.f
  refine Ev.bind (find_ev now s h) ?_
  by_cases hx : ∃ x ∈ d, x.nm = s
  · obtain ⟨x, hx, rfl⟩ := hx
    obtain ⟨a, b, rfl, ha, hb⟩ := split_at hn hx
    rw [fi_at ha, Int.zero_add]
    refine Ev.neg (by omega) ?_
    refine Ev.bind (f := fun _ t => some (now, t, 0)) (g := fun _ => contraref08_without.f (V (a ++ x :: b)) (a.length : Int)) (a := V (a ++ b)) ⟨0, fun _ _ => without_ev h⟩ ?_
    rw [hb, if_pos (any_yes' hx)]
    exact Ev.now _
  · have hno : ∀ x ∈ d, x.nm ≠ s := fun x h1 h2 => hx ⟨x, h1, h2⟩
    rw [fi_no hno]
    refine Ev.pos (by decide) ?_
    rw [but_self hno, if_neg (by rw [any_no' hno]; decide)]
    exact Ev.now _
theorem set_ev_bad {d : List Du} {now later : Int} (s : ByteArray) (ht : 0 ≤ now ∧ now ≤ 1099511627776) (hb : later < 1 ∨ 1099511627776 - now < later) : Ev (fun k => contraref08_Set.f k now (V d) s later) (now, V d, 1) := by
  have b0 : wrap64 (1099511627776 - now) = 1099511627776 - now := by unfold wrap64; omega
  unfold contraref08_Set.f
  by_cases h1 : later < 1
  · refine Ev.pos h1 (Ev.up ?_)
    simp only [contraref08_Set.j0, if_true]
    exact Ev.now _
  · refine Ev.neg h1 ?_
    rw [b0, decide_eq_true (show later > 1099511627776 - now by omega)]
    refine Ev.up ?_
    simp only [contraref08_Set.j0, if_true]
    exact Ev.now _
theorem set_ev {d : List Du} {now later : Int} (s : ByteArray) (ht : 0 ≤ now ∧ now ≤ 1099511627776) (hb : 1 ≤ later ∧ later ≤ 1099511627776 - now) (h : d.length < 4096) (hn : (d.map Du.nm).Nodup) (t : Int) (bk : Nat) :
    Ev (fun k => contraref08_Set.f k now (V d) s later) (now, V (but d s ++ [⟨s, now + later, t, bk⟩]), 0) := by
  have b0 : wrap64 (1099511627776 - now) = 1099511627776 - now := by unfold wrap64; omega
  have b1 : wrap64 (now + later) = now + later := by unfold wrap64; omega
  have hv : V (but d s ++ [⟨s, now + later, t, bk⟩]) = V (but d s) ++ [(⟨s, now + later⟩ : S51)] := V_app _ _
  have hl := V_len d
  unfold contraref08_Set.f
  refine Ev.neg (by omega) ?_
  rw [b0, decide_eq_false (show ¬ later > 1099511627776 - now by omega)]
  refine Ev.up ?_
  simp only [contraref08_Set.j0, Bool.false_eq_true, if_false]
  refine Ev.bind (find_ev now s (by omega)) ?_
  by_cases hx : ∃ x ∈ d, x.nm = s
  · obtain ⟨x, hx, rfl⟩ := hx
    obtain ⟨a, b, rfl, ha, hbt⟩ := split_at hn hx
    rw [fi_at ha, Int.zero_add]
    refine Ev.neg (by omega) (Ev.up ?_)
    simp only [contraref08_Set.j1, Bool.false_eq_true, if_false, Option.bind_some, List.nil_append, List.length_nil, Nat.zero_add]
    refine Ev.pos (by rw [hl]; omega) (Ev.pos (by omega) ?_)
    refine Ev.bind (g := fun _ => contraref08_without.f (V (a ++ x :: b)) (a.length : Int)) (a := V (a ++ b)) ⟨0, fun _ _ => without_ev (by omega)⟩ ?_
    rw [hv, hbt, b1]
    refine Ev.pos (by rw [V_len]; simp at h ⊢; omega) ?_
    exact Ev.now _
  · have hno : ∀ x ∈ d, x.nm ≠ s := fun x h1 h2 => hx ⟨x, h1, h2⟩
    rw [fi_no hno]
    refine Ev.pos (by decide) ?_
    rw [decide_eq_false (show ¬ ((V d).length : Int) ≥ 4096 by rw [hl]; omega)]
    refine Ev.up ?_
    simp only [contraref08_Set.j1, Bool.false_eq_true, if_false, Option.bind_some, List.nil_append, List.length_nil, Nat.zero_add]
    refine Ev.pos (by rw [hl]; omega) (Ev.neg (by decide) (Ev.pos (by rw [hl]; omega) ?_))
    rw [hv, but_self hno, b1]
    exact Ev.now _
theorem tick_l0 (now : Int) : ∀ (b a : List Du) (out : List ByteArray) (left : List S51), (a ++ b).length ≤ 1000000 → out.length ≤ a.length → left.length ≤ a.length →
    Ev (fun k => contraref08_Tick.l0 k out left (a.length : Int) now (V (a ++ b))) (now, left ++ V (late b now), out ++ (soon b now).map Du.nm) := by
  intro b
  induction b with
  | nil =>
    intro a out left h h1 h2
    refine Ev.up ?_
    simp only [contraref08_Tick.l0]
    refine Ev.neg (by rw [V_len]; simp) (Ev.some_ ?_)
    simp [late, soon, V]
  | cons x b ih =>
    intro a out left h h1 h2
    refine Ev.up ?_
    simp only [contraref08_Tick.l0]
    refine Ev.pos (by rw [V_len]; simp; omega) (Ev.pos (by omega) ?_)
    rw [V_at]
    have e1 : wrap64 ((a.length : Int) + 1) = ((a ++ [x]).length : Int) := by simp at h ⊢; unfold wrap64; omega
    rw [e1, show a ++ x :: b = (a ++ [x]) ++ b by simp]
    have hl : (a ++ [x]).length = a.length + 1 := by simp
    by_cases e : x.at_ ≤ now
    · refine Ev.pos e (Ev.pos (by simp at h; omega) ?_)
      refine (ih (a ++ [x]) (out ++ [x.nm]) left (by simp at h ⊢; omega) (by rw [hl]; simp; omega) (by rw [hl]; omega)).eq ?_
      have e2 : ¬ now < x.at_ := by omega
      simp [soon, late, List.filter_cons, e, e2]
    · refine Ev.neg e (Ev.pos (by simp at h; omega) ?_)
      refine (ih (a ++ [x]) out (left ++ [⟨x.nm, x.at_⟩]) (by simp at h ⊢; omega) (by rw [hl]; omega) (by rw [hl]; simp; omega)).eq ?_
      have e2 : now < x.at_ := by omega
      simp [soon, late, List.filter_cons, e, e2, V]
theorem tick_ev {d : List Du} {now : Int} (ht : 0 ≤ now ∧ now < 1099511627776) (h : d.length ≤ 1000000) : Ev (fun k => contraref08_Tick.f k now (V d)) (now + 1, V (late d (now + 1)), (soon d (now + 1)).map Du.nm) := by
  have b0 : wrap64 (now + 1) = now + 1 := by unfold wrap64; omega
  unfold contraref08_Tick.f
  refine Ev.neg (by omega) ?_
  rw [b0]
  exact tick_l0 (now + 1) d [] [] [] (by simpa using h) (Nat.le_refl _) (Nat.le_refl _)
theorem tick_ev_end (d : List Du) : Ev (fun k => contraref08_Tick.f k 1099511627776 (V d)) (1099511627776, V d, []) := by
  unfold contraref08_Tick.f
  exact Ev.pos (by omega) (Ev.now _)
end Go.Proofs.Ytdodaepdghlolaa.Pure.Clk
