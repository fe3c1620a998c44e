/-
  Own rows of plain structs: copy and append of a make by cells, and what slices.Insert leaves, on lists.
-/
import Derived.Test.YtianljjmnpdkcaaPOpen
import Derived.Test.YtianljjmnpdkcaaPEv
import Derived.Test.YtianljjmnpdkcaaWRepsOne
import Derived.Test.YtianljjmnpdkcaaWMore
import Derived.Test.YtianljjmnpdkcaaWArr
import Derived.Laws.AppendOwn
import Derived.Laws.CopyRow
import Derived.Lib.SliceRun
import Derived.Lib.AppendZerosOnto
import Derived.Lib.Overlaps
import Derived.Laws.Externs
import Derived.Laws.Cells
namespace Go.Proofs.Ytianljjmnpdkcaa.M
open Go.RowKit Go.Proofs.YtianljjmnpdkcaaW.PrintWords Go.Proofs.YtianljjmnpdkcaaW.PrintLast Go.Proofs.YtianljjmnpdkcaaW.PrintMore
set_option linter.unusedVariables false
set_option linter.unusedSimpArgs false
theorem copy_run {P : Program} {w : World} {dT sT ty e e' : TypeId} {sz g o dLen dCap sLen sCap k : Nat} {a : Addr} {cs : List Value} {cur : Array Value}
    (hu : P.underlying dT = some (.slice e)) (hs : (P.info? e).map (·.size) = some sz) (hk : Nat.min sLen dLen = k) (hn : cs.length = k * sz)
    (hsrc : ∀ j v, cs[j]? = some v → w.cell? (a.add j) = some v) (hg : w.heap[g]? = some (.cells cur e' (0, 0))) (hle : o + cs.length ≤ cur.size) (h1 : ∀ v ∈ cs, v.oneCell' = true) :
    (Builtin.copy_ #[dT, sT] ty #[.slice (some ⟨g, o, none⟩) dLen dCap, .slice (some a) sLen sCap]).run P w = .ok (goInt k) (w.setRow g (cur.toList.take o ++ cs ++ cur.toList.drop (o + cs.length)).toArray) := by
  have hl := run_loadCells_list (P := P) w a cs hsrc
  rw [hn] at hl
  have hst := run_storeCells_at (P := P) g o e' cs 0 cur w hg (by simpa using hle) h1
  simp only [Nat.add_zero] at hst
  cases hq : P.info? e with
  | none => simp [hq] at hs
  | some i =>
    have hi : i.size = sz := by simpa [hq] using hs
    simp [Builtin.copy_, run_underlying hu, Builtin.lenOf, Builtin.firstCells, sizeOf, typeInfo, hq, hi, hk, hl, hst]
theorem take3 {α : Type} {A B C : List α} {n : Nat} (h : A.length + B.length = n) : (A ++ B ++ C).take n = A ++ B := by
  rw [← h, ← List.length_append, List.take_left]
theorem take_l {α : Type} {A B : List α} {n : Nat} (h : A.length = n) : (A ++ B).take n = A := by rw [← h, List.take_left]
theorem drop_l {α : Type} {A B : List α} {n : Nat} (h : A.length = n) : (A ++ B).drop n = B := by rw [← h, List.drop_left]
/-- there is room: what stood behind moves on, the new one comes in its place -/
theorem lists_room {α : Type} (L seg : List α) (a b C s : Nat) (h1 : a + s ≤ b) (h2 : b + s ≤ C) (hL : L.length = C) (hseg : seg.length = s) (cs T : List α) (hcs : cs = (L.drop a).take (b - a)) (hT : T = L.take (a + s) ++ cs ++ L.drop (a + s + cs.length)) :
    cs.length = b - a ∧ T.length = C ∧ (T.take a ++ seg ++ T.drop (a + seg.length)).length = C ∧ (T.take a ++ seg ++ T.drop (a + seg.length)).take (b + s) = L.take a ++ seg ++ (L.take b).drop a := by
  have hc : cs.length = b - a := by rw [hcs, List.length_take, List.length_drop, hL]; omega
  have hTl : T.length = C := by rw [hT, List.length_append, List.length_append, List.length_take, List.length_drop, hc, hL]; omega
  have hTa : T.take a = L.take a := by
    rw [hT, List.append_assoc, List.take_append_of_le_length (by rw [List.length_take, hL]; omega), List.take_take, Nat.min_eq_left (by omega)]
  have hTd : T.drop (a + s) = cs ++ L.drop (a + s + cs.length) := by
    have hl : (L.take (a + s)).length = a + s := by rw [List.length_take, hL]; omega
    rw [hT, List.append_assoc, drop_l hl]
  refine ⟨hc, hTl, ?_, ?_⟩
  · rw [List.length_append, List.length_append, List.length_take, List.length_drop, hTl, hseg]; omega
  · rw [hseg, hTa, hTd, ← List.append_assoc, take3 (A := L.take a ++ seg) (B := cs) (by rw [List.length_append, List.length_take, hL, hseg, hc]; omega)]
    rw [hcs, List.drop_take]
/-- there is none: a new row -/
theorem lists_grow {α : Type} (L seg Z1 Z2 : List α) (a b C s E : Nat) (h1 : a + s ≤ b) (h2 : b ≤ C) (hL : L.length = C) (hseg : seg.length = s) (hz1 : Z1.length = b + s - a) (hz2 : Z2.length = E) (cs D0 D1 : List α) (hcs : cs = (L.drop a).take (b - a))
    (hD0 : D0 = L.take a ++ Z1 ++ Z2) (hD1 : D1 = D0.take a ++ seg ++ D0.drop (a + seg.length)) :
    D0.length = b + s + E ∧ cs.length = b - a ∧ D1.length = b + s + E ∧ (D1.take (a + s) ++ cs ++ D1.drop (a + s + cs.length)).length = b + s + E ∧ (D1.take (a + s) ++ cs ++ D1.drop (a + s + cs.length)).take (b + s) = L.take a ++ seg ++ (L.take b).drop a := by
  have hc : cs.length = b - a := by rw [hcs, List.length_take, List.length_drop, hL]; omega
  have hla : (L.take a).length = a := by rw [List.length_take, hL]; omega
  have hD0l : D0.length = b + s + E := by rw [hD0, List.length_append, List.length_append, hla, hz1, hz2]; omega
  have hD1l : D1.length = b + s + E := by rw [hD1, List.length_append, List.length_append, List.length_take, List.length_drop, hD0l, hseg]; omega
  have hD0a : D0.take a = L.take a := by
    rw [hD0, List.append_assoc, take_l hla]
  have hD1a : D1.take (a + s) = L.take a ++ seg := by
    rw [hD1, hD0a]
    exact take3 (by rw [hla, hseg])
  refine ⟨hD0l, hc, hD1l, ?_, ?_⟩
  · rw [List.length_append, List.length_append, List.length_take, List.length_drop, hD1l, hc]; omega
  · rw [hD1a, take3 (A := L.take a ++ seg) (B := cs) (by rw [List.length_append, hla, hseg, hc]; omega), hcs, List.drop_take]
/-- a kind that holds no memory -/
def Flat {α : Type} (d : Kd α) : Prop := ∀ {w w' : World} {b b' : Nat} {ok ok' : Nat → Prop} {x : α} {cs : List Value}, d.M w b ok x cs → d.M w' b' ok' x cs
/-- one more in its place -/
def ins {α : Type} (l : List α) (i : Nat) (q : α) : List α := l.take i ++ q :: l.drop i
theorem ins_len {α : Type} (l : List α) (i : Nat) (q : α) (h : i ≤ l.length) : (ins l i q).length = l.length + 1 := by
  unfold ins; rw [List.length_append, List.length_cons, List.length_take, List.length_drop]; omega
theorem ins_end {α : Type} (l : List α) (q : α) : ins l l.length q = l ++ [q] := by unfold ins; rw [List.take_length, List.drop_length]
theorem R_ins {α : Type} {d : Kd α} (hf : Flat d) {e N N0 g c i : Nat} {ok ok0 : Nat → Prop} {w w' : World} {l : List α} {q : α} {inner seg : List Value} {cur2 : Array Value} (hr : Reps (d.M w N0 ok0) d.sz l inner) (hq : d.M w N0 ok0 q seg) (hsl : seg.length = d.sz) (hil : i ≤ l.length)
    (hN : N ≤ g) (hok : ok g) (hw : w'.heap[g]? = some (.cells cur2 e (0, 0))) (hc : l.length + 1 ≤ c) (hm : c ≤ maxLen) (hsz : cur2.size = c * d.sz) (ht : cur2.toList.take ((l.length + 1) * d.sz) = inner.take (i * d.sz) ++ seg ++ inner.drop (i * d.sz)) :
    Kd.R d e w' N ok (.slice (some ⟨g, 0, none⟩) (l.length + 1) c) (ins l i q) := by
  have hin : inner.length = l.length * d.sz := hr.1
  have r1 := Kd.reps_take (m := i) hr hil
  have r2 := Kd.reps_drop (m := i) hr
  have r3 := Reps.front hq hsl r2 rfl
  have r4 := Kd.reps_append r1 r3
  refine ⟨fun k hk => ?_, cur2.toList.take ((l.length + 1) * d.sz), ?_, ?_⟩
  · simp [Value.ownBlock] at hk; rw [← hk]; exact hok
  · rw [ins_len l i q hil]
    refine ⟨?_, .inr ⟨g, c, cur2, rfl, hN, hw, hc, hm, hsz, rfl⟩⟩
    have hcl : cur2.toList.length = c * d.sz := by rw [Array.length_toList]; exact hsz
    rw [List.length_take, hcl]
    exact Nat.min_eq_left (Nat.mul_le_mul_right _ hc)
  · rw [ht, List.append_assoc]
    exact r4.imp_ (fun p cs hp => hf hp)
/-- an own row with elements, by its cells -/
theorem R_block {α : Type} {d : Kd α} {e N n c : Nat} {ok : Nat → Prop} {w : World} {A : Option Addr} {l : List α} (hs : 0 < d.sz) (h : Kd.R d e w N ok (.slice A n c) l) (hp : 0 < l.length) :
    ∃ g cur inner, A = some ⟨g, 0, none⟩ ∧ n = l.length ∧ N ≤ g ∧ ok g ∧ w.heap[g]? = some (.cells cur e (0, 0)) ∧ n ≤ c ∧ c ≤ maxLen ∧ cur.size = c * d.sz ∧ cur.toList.take (n * d.sz) = inner ∧ Reps (d.M w N (fun k => ok k ∧ some k ≠ (Value.slice A n c).ownBlock)) d.sz l inner := by
  obtain ⟨h0, inner, ho', hr⟩ := h
  rcases ho'.2 with ⟨e1, e2⟩ | ⟨g, cap, cur, e1, hb, hh, hnc, hcm, hcs, ht⟩
  · omega
  injection e1 with e1 e2 e3
  subst e1 e2 e3
  exact ⟨g, cur, inner, rfl, rfl, hb, h0 g rfl, hh, hnc, hcm, hcs, ht, hr⟩
end Go.Proofs.Ytianljjmnpdkcaa.M
