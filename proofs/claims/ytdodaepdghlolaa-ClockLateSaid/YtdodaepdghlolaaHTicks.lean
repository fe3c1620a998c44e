/-
  The small head of the clock's statements: what is due is told.
-/
import Derived.Test.YtdodaepdghlolaaOClk9
namespace Go.Proofs.Ytdodaepdghlolaa.Pure.Clk
open Go.RowKit Go.Proofs.Ytdodaepdghlolaa.M Go.Proofs.YtdodaepdghlolaaW.PrintWords Go.Proofs.YtdodaepdghlolaaW.PrintLast Go.Proofs.YtdodaepdghlolaaW.PrintMore Go.Proofs.Ytdodaepdghlolaa.Pure
set_option linter.unusedVariables false
set_option linter.unusedSimpArgs false

variable {N : Nat} {P P' : Nat → Prop} {w w' : World} {g : Nat} {now turns : Int} {m : Nat} {q d : List Du} {A : Option Addr} {c : Nat}
theorem str_at {e N : Nat} {ok : Nat → Prop} {v : Value} {L : List ByteArray} (h : Kd.R Kd.string e w N ok v L) {i : Nat} (hi : i < L.length) : ∃ ad c, v = .slice (some ad) L.length c ∧ w.cell? (ad.add i) = some (.string (L.getD i ⟨#[]⟩)) := by
  obtain ⟨A, c, rfl⟩ := Kd.R_slice h
  obtain ⟨ad, cs, e, _, hK, hc⟩ := Kd.C_get (Kd.R_reads' h).2.2 (⟨#[]⟩ : ByteArray) (i : Int) (by omega) (by omega)
  subst e
  rw [Int.toNat_natCast] at hK hc
  have hK2 : cs = [.string (L.getD i ⟨#[]⟩)] := hK
  subst hK2
  have := hc 0 _ rfl
  exact ⟨ad, c, rfl, by simpa [Kd.string, Kd.scalar] using this⟩
/-- a row of names is kept while the clock changes -/
theorem row_kept {e N : Nat} {ok S : Nat → Prop} {v : Value} {L : List ByteArray} (h : Kd.R Kd.string e w N ok v L) (hk : Kept w w' S) (hne : ∀ k, ok k → ¬S k) : Kd.R Kd.string e w' N ok v L := Kd.R_kept h hk hne
theorem str_sz1 (b : UInt8) : (ByteArray.mk #[b]).size ≤ 9223372036854775807 := by show 1 ≤ _; decide
theorem set_ok (h : Ck N P w g now turns d) {s : ByteArray} {later : Int} (hlt : 1 ≤ later ∧ later ≤ 1099511627776 - now) (htu : turns < 4611686018427387903) (hs : s.size ≤ 9223372036854775807) (hl : (∃ x ∈ d, x.nm = s) ∨ d.length < 4096) :
    Calls Try.prog 10 #[.pointer (some ⟨g, 0, none⟩), .string s, .int .i64 later] w fun e w' => e = .returned (.int .i64 0) ∧ (∃ b, Ck N (fun k => P k ∨ w.heap.size ≤ k) w' g now (turns + 1) (but d s ++ [⟨s, now + later, turns + 1, b⟩])) ∧ Below N w w' ∧ Kept w w' P := by
  by_cases hx : ∃ x ∈ d, x.nm = s
  · obtain ⟨x, hx, rfl⟩ := hx
    exact (set_again h hlt htu hx).mono fun e w' ⟨h1, h2, h3, h4⟩ => ⟨h1, ⟨x.bk, h2.mono (fun k q => .inl q)⟩, h3, h4⟩
  · have hn : ∀ x ∈ d, x.nm ≠ s := fun x h1 h2 => hx ⟨x, h1, h2⟩
    exact (set_new h hlt htu hs hn (hl.resolve_left hx)).mono fun e w' ⟨h1, ⟨b, h2⟩, h3, h4⟩ => ⟨h1, ⟨b, by rw [but_self hn]; exact h2⟩, h3, h4⟩
theorem drop_any (h : Ck N P w g now turns d) {s : ByteArray} (htu : turns < 4611686018427387903) (hs : s.size ≤ 9223372036854775807) (hN : N ≤ w.heap.size) :
    Calls Try.prog 13 #[.pointer (some ⟨g, 0, none⟩), .string s] w fun e w' => e = .returned (.int .i64 (if d.any (fun x => decide (x.nm = s)) then 0 else 4)) ∧ Ck N P w' g now turns (but d s) ∧ Below N w w' ∧ Kept w w' P := by
  by_cases hx : ∃ x ∈ d, x.nm = s
  · obtain ⟨x, hx, rfl⟩ := hx
    exact (drop_yes h htu hx).mono fun e w' ⟨h1, h2, h3, h4⟩ => ⟨by rw [h1, any_yes hx]; rfl, h2, h3, h4⟩
  · have hn : ∀ x ∈ d, x.nm ≠ s := fun x h1 h2 => hx ⟨x, h1, h2⟩
    exact (drop_no h hs hn).mono fun e w' ⟨h1, h2⟩ => ⟨by rw [h1, any_no hn]; rfl, by rw [but_self hn]; exact h.below h2, h2.mono hN, Kept.of_below h2 P⟩
theorem but_all {d : List Du} {s : ByteArray} (h : ∀ x ∈ d, x.nm = s) : but d s = [] := List.filter_eq_nil_iff.2 (fun x hx => by simpa using h x hx)
theorem late_late (d : List Du) {s t : Int} (h : s ≤ t) : late (late d s) t = late d t := by
  unfold late
  rw [List.filter_filter]
  apply List.filter_congr
  intro x _
  by_cases e : t < x.at_
  · have : s < x.at_ := by omega
    simp [e, this]
  · simp [e]
theorem soon_late (d : List Du) {t : Int} : soon (late d t) (t + 1) = d.filter (fun x => decide (x.at_ = t + 1)) := by
  unfold soon late
  rw [List.filter_filter]
  apply List.filter_congr
  intro x _
  rw [← Bool.decide_and, decide_eq_decide]
  omega
def cnt (L : List ByteArray) (s : ByteArray) : Nat := L.countP (fun x => decide (x = s))
/-- how many of a name are told up to a time -/
def told (d : List Du) (s : ByteArray) (t : Int) : Nat := cnt ((soon d t).map Du.nm) s
theorem told_step (d : List Du) (s : ByteArray) (t : Int) : told d s (t + 1) = told d s t + cnt ((soon (late d t) (t + 1)).map Du.nm) s := by
  rw [soon_late]
  unfold told soon cnt
  induction d with
  | nil => rfl
  | cons x d ih =>
    rw [List.filter_cons, List.filter_cons, List.filter_cons]
    by_cases h1 : x.at_ ≤ t
    · have h2 : x.at_ ≤ t + 1 := by omega
      have h3 : ¬ x.at_ = t + 1 := by omega
      simp only [h1, h2, h3, decide_true, decide_false, if_true, if_false, List.map_cons, List.countP_cons, Bool.false_eq_true]
      omega
    · by_cases h2 : x.at_ = t + 1
      · have h3 : x.at_ ≤ t + 1 := by omega
        simp only [h1, h3, decide_true, decide_false, if_true, if_false, List.map_cons, List.countP_cons, Bool.false_eq_true]
        simp only [h2, decide_true, if_true, List.map_cons, List.countP_cons]
        omega
      · have h3 : ¬ x.at_ ≤ t + 1 := by omega
        simp only [h1, h2, h3, decide_true, decide_false, if_true, if_false, Bool.false_eq_true]
        exact ih
set_option maxHeartbeats 8000000 in
set_option maxRecDepth 100000 in
theorem ticks_calls (w : World) : Calls Try.prog 8 #[] w fun e w' => e = .returned (.bool true) ∧ Below w.heap.size w w' := by
  go_enter Try.func8, Try.ntmps8
  go_wp2_with fail
  refine (new_calls w).mono ?_
  rintro x w1 ⟨⟨g, rfl, hC⟩, hb⟩
  have C1 := Aside0.mk hC; have B1 := Aside0.mk hb
  clear hC hb
  go_wp2_with fail
  refine (set_new (s := ⟨#[97]⟩) (later := 2) C1.out (by decide) (by decide) (str_sz1 _) (fun x hx => by cases hx) (by decide)).mono ?_
  rintro x w2 ⟨rfl, ⟨b1, hC⟩, hb, hk⟩
  have C2 := Aside0.mk (hC.mono (P' := fun k => w.heap.size ≤ k) (fun k q => q.elim id (fun q => Nat.le_trans B1.out.size q))); have B2 := Aside0.mk (B1.out.trans hb)
  clear hC hb hk C1 B1
  go_wp2_with fail
  refine (set_new (s := ⟨#[98]⟩) (later := 1) C2.out (by decide) (by decide) (str_sz1 _) (fun x hx => by rw [List.nil_append, List.mem_singleton] at hx; subst hx; show (ByteArray.mk #[97]) ≠ ⟨#[98]⟩; decide) (show 1 < 4096 by decide)).mono ?_
  rintro x w3 ⟨rfl, ⟨b2, hC⟩, hb, hk⟩
  have C3 := Aside0.mk (hC.mono (P' := fun k => w.heap.size ≤ k) (fun k q => q.elim id (fun q => Nat.le_trans B2.out.size q))); have B3 := Aside0.mk (B2.out.trans hb)
  clear hC hb hk C2 B2
  go_wp2_with fail
  refine (clen_calls C3.out).mono ?_
  rintro x w4 ⟨rfl, hb⟩
  have C4 := Aside0.mk (C3.out.below hb); have B4 := Aside0.mk (below_step B3.out hb)
  clear hb C3 B3
  dsimp only [List.length_append, List.length_nil, List.length_cons]
  go_wp2_with fail
  refine (tick_calls C4.out (by intro x hx; simp at hx; rcases hx with rfl | rfl; (show (0 : Int) < 2; decide); (show (0 : Int) < 1; decide)) (by decide) (by decide)).mono ?_
  rintro x w5 ⟨⟨v5, rfl, hR⟩, hC, hb, hk⟩
  have R5 := Aside0.mk hR; have C5 := Aside0.mk hC; have B5 := Aside0.mk (B4.out.trans hb)
  clear hR hC hb hk C4 B4
  go_wp2_with fail
  refine (tick_calls C5.out (fun x hx => by have := (List.mem_filter.1 hx).2; simpa using this) (by decide) (by decide)).mono ?_
  rintro x w6 ⟨⟨v6, rfl, hR⟩, hC, hb, hk⟩
  have R6 := Aside0.mk hR; have C6 := Aside0.mk hC; have B6 := Aside0.mk (B5.out.trans hb); have R5' := Aside0.mk (row_kept R5.out hk (fun k q e => Nat.not_lt.mpr q e.1.2))
  clear hR hC hb hk C5 B5 R5
  have e5 : (soon ([] ++ [(⟨⟨#[97]⟩, 0 + 2, 0 + 1, b1⟩ : Du)] ++ [⟨⟨#[98]⟩, 0 + 1, 0 + 1 + 1, b2⟩]) (0 + 1)).map Du.nm = [⟨#[98]⟩] := rfl
  have e6 : (soon (late ([] ++ [(⟨⟨#[97]⟩, 0 + 2, 0 + 1, b1⟩ : Du)] ++ [⟨⟨#[98]⟩, 0 + 1, 0 + 1 + 1, b2⟩]) (0 + 1)) (0 + 1 + 1)).map Du.nm = [⟨#[97]⟩] := rfl
  have e7 : late (late ([] ++ [(⟨⟨#[97]⟩, 0 + 2, 0 + 1, b1⟩ : Du)] ++ [⟨⟨#[98]⟩, 0 + 1, 0 + 1 + 1, b2⟩]) (0 + 1)) (0 + 1 + 1) = [] := rfl
  rw [e5] at R5'
  rw [e6] at R6
  rw [e7] at C6
  obtain ⟨a5, c5, rfl, y5⟩ := str_at R5'.out (i := 0) (by decide)
  obtain ⟨a6, c6, rfl, y6⟩ := str_at R6.out (i := 0) (by decide)
  have z5 : w6.cell? a5 = some (.string ⟨#[98]⟩) := by simpa [Addr.add] using y5
  have z6 : w6.cell? a6 = some (.string ⟨#[97]⟩) := by simpa [Addr.add] using y6
  clear e5 e6 e7 y5 y6 R5' R6
  dsimp only [List.length_cons, List.length_nil]
  go_wp2_with fail
  refine (now_calls C6.out).mono ?_
  rintro x w7 ⟨rfl, hb⟩
  have C7 := Aside0.mk (C6.out.below hb); have B7 := Aside0.mk (below_step B6.out hb)
  clear hb C6 B6 z5 z6
  go_wp2_with fail
  refine (clen_calls C7.out).mono ?_
  rintro x w8 ⟨rfl, hb⟩
  have B8 := Aside0.mk (below_step B7.out hb)
  clear hb C7 B7
  go_wp2_with fail
  go_ret
  exact ⟨rfl, B8.out⟩
end Go.Proofs.Ytdodaepdghlolaa.Pure.Clk
