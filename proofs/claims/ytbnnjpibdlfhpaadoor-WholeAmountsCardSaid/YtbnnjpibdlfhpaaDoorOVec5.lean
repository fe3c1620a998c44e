/-
  Vectors: Add in one contract, Of, List.
-/
import Derived.Test.YtbnnjpibdlfhpaaDoorOVec4
namespace Go.Proofs.YtbnnjpibdlfhpaaDoor.M
open Go.RowKit Go.Proofs.YtbnnjpibdlfhpaaDoorW.PrintWords Go.Proofs.YtbnnjpibdlfhpaaDoorW.PrintLast Go.Proofs.YtbnnjpibdlfhpaaDoorW.PrintMore
set_option linter.unusedVariables false
set_option linter.unusedSimpArgs false
/-- what an entity has of a currency -/
def ofP (l : List S39) (t : S39) : Int := if thereP l t = true then amtP l t else 0
/-- positions with more -/
def vadd (l : List S39) (t : S39) : List S39 :=
  if thereP l t = true then (if amtP l t + t.f2 = 0 then l.eraseIdx (atP l t) else l.set (atP l t) ⟨t.f0, t.f1, amtP l t + t.f2⟩) else if t.f2 = 0 then l else l ++ [t]
theorem vec_add {A : Option Addr} {c : Nat} {l : List S39} {e cu am : Int} {w : World} (hC : Kd.C k39 w A l.length l) (hv : VOk l) (ht : KB ⟨e, cu, am⟩) (hend : thereP l ⟨e, cu, am⟩ = false → atP l ⟨e, cu, am⟩ = l.length) (hi1 : In64 (ofP l ⟨e, cu, am⟩)) (hi2 : In64 am) (hf : In64 (ofP l ⟨e, cu, am⟩ + am)) :
    Calls Tryd.prog 4 #[.agg #[.slice A l.length c], .int .i64 e, .int .i64 cu, .int .i64 am] w fun x w' => ∃ v, x = .returned (.tuple #[.agg #[v], .int .i64 0]) ∧ Kd.R k39 39 w' w.heap.size (fun _ => True) v (vadd l ⟨e, cu, am⟩) ∧ Below w.heap.size w w' := by
  unfold ofP at hi1 hf
  unfold vadd
  by_cases hth : thereP l ⟨e, cu, am⟩ = true
  · rw [if_pos hth] at hi1 hf
    rw [if_pos hth]
    by_cases hs : amtP l ⟨e, cu, am⟩ + am = 0
    · rw [if_pos hs]; exact add_del hC hv ht hth hi1 hi2 rfl hs
    · rw [if_neg hs]; exact add_set hC hv ht hth hi1 hi2 rfl hf hs
  · have hth' : thereP l ⟨e, cu, am⟩ = false := by simpa using hth
    rw [if_neg hth]
    by_cases h0 : am = 0
    · rw [if_pos h0]; exact add_zero hC hv ht hth' h0
    · rw [if_neg h0]; exact add_new hC hv ht hth' h0 (hend hth')
theorem vec_err {A : Option Addr} {c : Nat} {l : List S39} {e cu am : Int} {w : World} (hC : Kd.C k39 w A l.length l) (hv : VOk l) (ht : KB ⟨e, cu, am⟩) (hi1 : In64 (ofP l ⟨e, cu, am⟩)) (hi2 : In64 am) (hf : ¬ In64 (ofP l ⟨e, cu, am⟩ + am)) :
    Calls Tryd.prog 4 #[.agg #[.slice A l.length c], .int .i64 e, .int .i64 cu, .int .i64 am] w fun x w' => x = .returned (.tuple #[.agg #[.slice A l.length c], .int .i64 10]) ∧ Below w.heap.size w w' := by
  unfold ofP at hi1 hf
  by_cases hth : thereP l ⟨e, cu, am⟩ = true
  · rw [if_pos hth] at hi1 hf
    exact add_err hC hv ht hth hi1 hi2 rfl hf
  · rw [if_neg hth, Int.zero_add] at hf
    exact absurd hi2 hf
set_option maxHeartbeats 8000000 in
set_option maxRecDepth 100000 in
theorem of_no {A : Option Addr} {c : Nat} {l : List S39} {e cu : Int} {w : World} (hC : Kd.C k39 w A l.length l) (hv : VOk l) (ht : KB ⟨e, cu, 0⟩) (hth : thereP l ⟨e, cu, 0⟩ = false) :
    Calls Tryd.prog 5 #[.agg #[.slice A l.length c], .int .i64 e, .int .i64 cu] w fun x w' => x = .returned (.int .i64 0) ∧ Below w.heap.size w w' := by
  obtain ⟨hl, hb, hs⟩ := hv
  have AL := Aside0.mk (at_le l ⟨e, cu, 0⟩)
  have BSF := Aside0.mk (fun (w' : World) (hb' : Below w.heap.size w w') => bsf_calls (c := c) (t := ⟨e, cu, 0⟩) (w := w') rfl (Kd.C_below hC hb') (by omega) hb ht hs)
  rw [hth] at BSF
  obtain ⟨n, hn⟩ : ∃ n, l.length = n := ⟨_, rfl⟩
  obtain ⟨k, hk⟩ : ∃ k, atP l ⟨e, cu, 0⟩ = k := ⟨_, rfl⟩
  rw [hn, hk] at BSF
  rw [hn]
  clear hn hk hl hb hs hC hth ht AL
  go_enter Tryd.func5, Tryd.ntmps5
  go_wp2_with (first | ((with_reducible refine gate_dst (N := 3) rfl ?_); refine box_event ?hg (N := 3) ?hd (cs := #[.slice A n c]) (t := 25) ?hr ?_; (case hd => rfl); (case hg => rfl); (case hr => first | (go_simp; done) | (go_simp; rfl)); intro g3 hg w3 hbox hb; have B3 := Aside0.mk hb; have K3 := Aside0.mk hbox; have qc0 : w3.cell? ⟨g3, 0, none⟩ = some (.slice A n c) := (blk_cell K3.out 0).trans rfl; have qf0 := blk_frozen K3.out 0; clear hb hg hbox) | (go_at_call 12; refine (BSF.out _ B3.out).mono ?_; rintro x w12 ⟨rfl, hb⟩; have B12 := Aside0.mk (below_step B3.out hb); have K3e := Aside0.mk (blk_below K3.out hb); clear hb BSF qc0 qf0; have qc0 : w12.cell? ⟨g3, 0, none⟩ = some (.slice A n c) := (blk_cell K3e.out 0).trans rfl; have qf0 := blk_frozen K3e.out 0))
  go_ret
  exact ⟨rfl, B12.out⟩
set_option maxHeartbeats 8000000 in
set_option maxRecDepth 100000 in
theorem of_yes {A : Option Addr} {c : Nat} {l : List S39} {e cu : Int} {w : World} (hC : Kd.C k39 w A l.length l) (hv : VOk l) (ht : KB ⟨e, cu, 0⟩) (hth : thereP l ⟨e, cu, 0⟩ = true) :
    Calls Tryd.prog 5 #[.agg #[.slice A l.length c], .int .i64 e, .int .i64 cu] w fun x w' => x = .returned (.int .i64 (amtP l ⟨e, cu, 0⟩)) ∧ Below w.heap.size w w' := by
  have hlt : atP l ⟨e, cu, 0⟩ < l.length := there_lt hth
  obtain ⟨ad, rfl, x0_, x1_, x2_⟩ := posC hC (i := atP l ⟨e, cu, 0⟩) hlt
  obtain ⟨x, hx⟩ : ∃ x, x = amtP l ⟨e, cu, 0⟩ := ⟨_, rfl⟩
  rw [show (l.getD (atP l ⟨e, cu, 0⟩) z39).f2 = x from hx.symm] at x2_
  rw [← hx]
  clear hx x0_ x1_
  obtain ⟨hl, hb, hs⟩ := hv
  have AL := Aside0.mk (at_le l ⟨e, cu, 0⟩)
  have BSF := Aside0.mk (fun (w' : World) (hb' : Below w.heap.size w w') => bsf_calls (c := c) (t := ⟨e, cu, 0⟩) (w := w') rfl (Kd.C_below hC hb') (by omega) hb ht hs)
  rw [hth] at BSF
  obtain ⟨n, hn⟩ : ∃ n, l.length = n := ⟨_, rfl⟩
  obtain ⟨k, hk⟩ : ∃ k, atP l ⟨e, cu, 0⟩ = k := ⟨_, rfl⟩
  rw [hn, hk] at BSF
  rw [hk] at x2_ hlt
  rw [hn] at hlt
  have X2 := Aside0.mk x2_
  have ix1 : (0 : Int) ≤ (k : Int) := by omega
  have ix2 : (k : Int) < (n : Int) := by omega
  have ix3 := eq_true ix1; have ix4 := eq_true ix2
  have ix5 : decide ((k : Int) < (n : Int)) = true := decide_eq_true ix2
  have ix6 : decide (k < n) = true := decide_eq_true (by omega)
  have ix7 : (k < n) = True := eq_true (by omega)
  clear x2_ hlt
  rw [hn]
  clear hn hk hl hb hs hC hth ht AL
  go_enter Tryd.func5, Tryd.ntmps5
  go_wp2_with (first | ((with_reducible refine gate_dst (N := 3) rfl ?_); refine box_event ?hg (N := 3) ?hd (cs := #[.slice (some ad) n c]) (t := 25) ?hr ?_; (case hd => rfl); (case hg => rfl); (case hr => first | (go_simp; done) | (go_simp; rfl)); intro g3 hg w3 hbox hb; have B3 := Aside0.mk hb; have K3 := Aside0.mk hbox; have qc0 : w3.cell? ⟨g3, 0, none⟩ = some (.slice (some ad) n c) := (blk_cell K3.out 0).trans rfl; have qf0 := blk_frozen K3.out 0; clear hb hg hbox) | (go_at_call 12; refine (BSF.out _ B3.out).mono ?_; rintro x w12 ⟨rfl, hb⟩; have B12 := Aside0.mk (below_step B3.out hb); have K3e := Aside0.mk (blk_below K3.out hb); clear hb BSF qc0 qf0; have qc0 : w12.cell? ⟨g3, 0, none⟩ = some (.slice (some ad) n c) := (blk_cell K3e.out 0).trans rfl; have qf0 := blk_frozen K3e.out 0; have xe := pw_cell_below B12.out X2.out))
  go_ret
  exact ⟨rfl, B12.out⟩
theorem of_calls {A : Option Addr} {c : Nat} {l : List S39} {e cu : Int} {w : World} (hC : Kd.C k39 w A l.length l) (hv : VOk l) (ht : KB ⟨e, cu, 0⟩) :
    Calls Tryd.prog 5 #[.agg #[.slice A l.length c], .int .i64 e, .int .i64 cu] w fun x w' => x = .returned (.int .i64 (ofP l ⟨e, cu, 0⟩)) ∧ Below w.heap.size w w' := by
  unfold ofP
  by_cases hth : thereP l ⟨e, cu, 0⟩ = true
  · rw [if_pos hth]; exact of_yes hC hv ht hth
  · rw [if_neg hth]; exact of_no hC hv ht (by simpa using hth)
set_option maxHeartbeats 8000000 in
set_option maxRecDepth 100000 in
theorem list_calls {A : Option Addr} {n c : Nat} {l : List S39} {w : World} (hn : n = l.length) (hC : Kd.C k39 w A l.length l) (hl : l.length ≤ 4095) :
    Calls Tryd.prog 11 #[.agg #[.slice A n c]] w fun x w' => ∃ v, x = .returned v ∧ Kd.R k39 39 w' w.heap.size (fun _ => True) v l ∧ Below w.heap.size w w' := by
  have HC := Aside0.mk hC; have HL := Aside0.mk hl; have HNN := Aside0.mk hn
  clear hn hC hl
  go_enter Tryd.func11, Tryd.ntmps11
  go_wp2_with (first | ((with_reducible refine gate_dst (N := 1) rfl ?_); refine box_event ?hg (N := 1) ?hd (cs := #[.slice A n c]) (t := 25) ?hr ?_; (case hd => rfl); (case hg => rfl); (case hr => first | (go_simp; done) | (go_simp; rfl)); intro g1 hg w1 hbox hb; have B1 := Aside0.mk hb; have K1 := Aside0.mk hbox; have qc0 : w1.cell? ⟨g1, 0, none⟩ = some (.slice A n c) := (blk_cell K1.out 0).trans rfl; have qf0 := blk_frozen K1.out 0; clear hb hg hbox) | (go_at_call 14; refine (clone_calls (w := w1) HNN.out (Kd.C_below HC.out B1.out) (by have := HL.out; omega)).mono ?_; rintro x w2 ⟨v, rfl, hO, hb⟩; have O2 := Aside0.mk (Kd.R_lower hO B1.out.size); have B2 := Aside0.mk (below_step B1.out hb); clear hO hb))
  go_ret
  exact ⟨_, rfl, O2.out, B2.out⟩
end Go.Proofs.YtbnnjpibdlfhpaaDoor.M
