/-
  A whole struct loaded, or stored, in one step of a walk.
-/
import Derived.Test.YtianljjmnpdkcaaPOpen
import Derived.Test.YtianljjmnpdkcaaPEv
import Derived.Test.YtianljjmnpdkcaaWMore
import Derived.Laws.CopyRow
namespace Go.Proofs.Ytianljjmnpdkcaa.M
open Go.RowKit Go.Proofs.YtianljjmnpdkcaaW.PrintWords Go.Proofs.YtianljjmnpdkcaaW.PrintLast Go.Proofs.YtianljjmnpdkcaaW.PrintMore
set_option linter.unusedVariables false
set_option linter.unusedSimpArgs false
/-- what is known of a world in which block g alone was written -/
structure Put (W w1 : World) (g : Nat) : Prop where
  size : w1.heap.size = W.heap.size
  other : ∀ j, j ≠ g → w1.heap[j]? = W.heap[j]?
  below : ∀ {B : Nat} {w0 : World}, B ≤ g → Below B w0 W → Below B w0 w1
theorem Put.kept {W w1 : World} {g : Nat} (h : Put W w1 g) : Kept W w1 (fun k => k = g) := ⟨Nat.le_of_eq h.size.symm, fun i _ hn => h.other i hn⟩
theorem Put.blk {W w1 : World} {g j : Nat} {o : Obj} (h : Put W w1 g) (hb : W.heap[j]? = some o) (hj : j ≠ g) : w1.heap[j]? = some o := (h.other j hj).trans hb
section
variable {P : Program} {ops : Array Oper} {rest : List Oper} {o : Oper} {a : Act} {Q : Exit → Act → World → Prop} {W : World} {g t : Nat} {cs new old : Array Value} {fs : Array Field}
theorem load_row (hu : P.underlying t = some (.struct fs)) (h : W.heap[g]? = some (.cells cs t (0, 0))) (hs : (P.info? t).map (·.size) = some cs.size) : (Instr.loadAt t (.pointer (some ⟨g, 0, none⟩))).run P W = .ok (.agg cs) W := by
  have h2 := run_loadVar_row (P := P) W g t t cs (0, 0) _ h hu rfl hs
  simp only [Instr.loadAt, Instr.sureAddr, Sem.run_bind, Sem.run_pure, Result.andThen_ok, h2]
theorem ev_load (p : Operand) (hgd : o.guard = none) (ho : o.op = .load t p) (hp : a.eval p = .pointer (some ⟨g, 0, none⟩)) (hu : P.underlying t = some (.struct fs)) (h : W.heap[g]? = some (.cells cs t (0, 0))) (hs : (P.info? t).map (·.size) = some cs.size)
    (k : wpList P ops Q rest (a.put o.dst (.agg cs)) W) : wpList P ops Q (o :: rest) a W := by
  refine Kd.event_run hgd ?_ k
  unfold execOp
  simp only [ho, hp, Sem.run_bind, Sem.run_pure, load_row hu h hs, Result.andThen_ok]
theorem store_row (h : W.heap[g]? = some (.cells old t (0, 0))) (hs : (P.info? t).map (·.size) = some new.size) (hso : old.size = new.size) (h1 : ∀ q ∈ new.toList, q.oneCell' = true) :
    (Instr.storeAt t (.pointer (some ⟨g, 0, none⟩)) (.agg new)).run P W = .ok () (W.setRow g new) := by
  obtain ⟨i, hi, hsz⟩ := Option.map_eq_some_iff.1 hs
  have hst := run_storeCells_at (P := P) g 0 t new.toList 0 old W h (by rw [Array.length_toList]; omega) h1
  have e : (old.toList.take (0 + 0) ++ new.toList ++ old.toList.drop (0 + 0 + new.toList.length)).toArray = new := by
    rw [Nat.zero_add, Nat.zero_add, List.take_zero, List.nil_append, List.drop_of_length_le (by rw [Array.length_toList, Array.length_toList]; omega), List.append_nil]
  rw [e] at hst
  have hc : (Value.agg new).cells = new := rfl
  simp [Instr.storeAt, Instr.sureAddr, storeVar, sizeOf, typeInfo, hi, hc, hsz, hst]
theorem ev_store (p x : Operand) (hgd : o.guard = none) (hN : o.dst = none) (ho : o.op = .store t p x) (hp : a.eval p = .pointer (some ⟨g, 0, none⟩)) (hx : a.eval x = .agg new) (h : W.heap[g]? = some (.cells old t (0, 0))) (hs : (P.info? t).map (·.size) = some new.size) (hso : old.size = new.size) (h1 : ∀ q ∈ new.toList, q.oneCell' = true)
    (k : ∀ w1, w1.heap[g]? = some (.cells new t (0, 0)) → Put W w1 g → wpList P ops Q rest a w1) : wpList P ops Q (o :: rest) a W := by
  refine wpList_plain hgd fun K hK => ?_
  unfold Oper.wp execOp
  simp only [ho, hp, hx, Sem.run_bind, Sem.run_pure, Result.andThen_ok, store_row h hs hso h1]
  show K (a.put o.dst undef) _
  rw [hN]
  refine hK a _ (k _ (setRow_heap W g old new t (0, 0) h) ⟨setRow_size W g new, fun j hj => setRow_other W g j new hj, fun {B w0} hB hb => ⟨hb.os, hb.tape, hb.output, by rw [setRow_size]; exact hb.size, fun j hj => (setRow_other W g j new (by omega)).trans (hb.block j hj)⟩⟩)
end
end Go.Proofs.Ytianljjmnpdkcaa.M
