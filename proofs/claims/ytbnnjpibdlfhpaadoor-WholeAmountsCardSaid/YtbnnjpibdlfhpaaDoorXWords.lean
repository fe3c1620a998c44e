import Derived.Test.YtbnnjpibdlfhpaaDoorWMore
import Derived.Test.YtbnnjpibdlfhpaaDoorWGuard
import Derived.Lib.SlBytesConst
/-! Words of this session: what the printed walks lack. -/
namespace Go.Proofs.YtbnnjpibdlfhpaaDoorW.PrintMore
open Go.RowKit Go.Proofs.YtbnnjpibdlfhpaaDoorW.PrintWords Go.Proofs.YtbnnjpibdlfhpaaDoorW.PrintLast
theorem blk_cell_any {w : World} {g : Nat} {t : TypeId} {cs : Array Value} {fr : Nat × Nat} (h : w.heap[g]? = some (.cells cs t fr)) (i : Nat) : w.cell? ⟨g, i, none⟩ = cs[i]? := cell_of_row w g i cs t fr h
section
variable {P : Program} {ops : Array Oper} {rest : List Oper} {o o2 : Oper} {a : Act} {Q : Exit → Act → World → Prop} {W : World}
/-- '[]byte("text")': a literal's row and its mark: told as what is only read. -/
theorem V_litmark {w0 W : World} (base t e : Nat) {xs : List Int} (hgd : Region.wanted o (yielded ops a.tmps) = true) (hgd2 : Region.wanted o2 (yielded ops (a.put o.dst (.slice (some ⟨W.heap.size, 0, none⟩) xs.length xs.length)).tmps) = true) (ht : P.underlying t = some (.slice e)) (he : P.underlying e = some (.int .u8)) {inner : List Value} {ok : Nat → Prop}
    (hin : inner = nums .u8 xs)
    (hrun : (execOp a.eval o).run P W = .ok (.value (.slice (some ⟨W.heap.size, 0, none⟩) xs.length xs.length)) (W.alloc (.cells inner.toArray e)))
    (hrun2 : ∀ W', (execOp (a.put o.dst (.slice (some ⟨W.heap.size, 0, none⟩) xs.length xs.length)).eval o2).run P W' = ((convert t t (.slice (some ⟨W.heap.size, 0, none⟩) xs.length xs.length)).run P W').andThen fun x w' => .ok (.value x) w')
    (hfresh : ok W.heap.size) (HB : Below base w0 W) (hbase : base ≤ W.heap.size) (hm : xs.length ≤ 9223372036854775807)
    (h : ∀ v1 w1, Kd.V (Kd.int .u8) e w1 base ok v1 xs → Below base w0 w1 → W.grownBy w1 none → wpList P ops Q rest ((a.put o.dst v1).put o2.dst v1) w1) :
    wpList P ops Q (o :: o2 :: rest) a W := by
  subst hin
  refine gate_guard hgd (Kd.event_run (o := { o with guard := none }) rfl hrun ?_)
  have h2 := Lib.run_convert_bytes_const (P := P) W t e (nums .u8 xs).toArray xs.length xs.length ht he
  refine gate_guard hgd2 (Kd.event_run (o := { o2 with guard := none }) (w1 := W.alloc (.cells (nums .u8 xs).toArray e ((nums .u8 xs).toArray.size, (nums .u8 xs).toArray.size + 1))) rfl ((hrun2 _).trans (by rw [h2]; rfl)) ?_)
  refine h _ _ (Kd.V_mk (Nat.le_refl _) (fun W' hW => ?_)) (HB.alloc hbase _) (World.grownBy_alloc W _ none)
  refine Kd.C_of_reads (d := (0 : Int)) (h1 := fun _ => rfl) ⟨rfl, hm, fun _ => ⟨_, rfl, fun j hj => ?_⟩⟩
  have hb : W'.heap[W.heap.size]? = some (.cells (nums .u8 xs).toArray e ((nums .u8 xs).toArray.size, (nums .u8 xs).toArray.size + 1)) := (hW _ hfresh (by simp)).trans (blk_new W _)
  have := blk_cell_any hb j
  simp only [Addr.add] at this ⊢
  simp only [Nat.zero_add]
  refine (Eq.trans ?_ this).trans ?_
  · by_cases hj0 : j = 0
    · subst hj0; rfl
    · rw [if_neg hj0]
  · simp [nums, List.getD, hj]
end
end Go.Proofs.YtbnnjpibdlfhpaaDoorW.PrintMore
