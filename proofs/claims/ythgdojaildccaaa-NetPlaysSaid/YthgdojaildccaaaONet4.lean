/-
  The net: slices.Delete of one packet.
-/
import Derived.Test.YthgdojaildccaaaONet3
import Derived.Laws.AppendOwn
import Derived.Laws.CopyRow
namespace Go.Proofs.Ythgdojaildccaaa.M
open Go.RowKit Go.Proofs.YthgdojaildccaaaW.PrintWords Go.Proofs.YthgdojaildccaaaW.PrintLast Go.Proofs.YthgdojaildccaaaW.PrintMore
set_option linter.unusedVariables false
set_option linter.unusedSimpArgs false
theorem del_R {N : Nat} {ok : Nat → Prop} {w w' : World} {gp c i : Nat} {fl : List S37} {cur cur2 : Array Value} (h : Kd.R k37 37 w N ok (.slice (some ⟨gp, 0, none⟩) fl.length c) fl) (hi : i < fl.length)
    (hcur : w.heap[gp]? = some (.cells cur 37 (0, 0))) (hw' : w'.heap[gp]? = some (.cells cur2 37 (0, 0))) (hsz : cur2.size = cur.size)
    (htk : cur2.toList.take ((fl.length - 1) * 15) = cur.toList.take (i * 15) ++ (cur.toList.take (fl.length * 15)).drop ((i + 1) * 15)) (ho : ∀ k, k ≠ gp → w'.heap[k]? = w.heap[k]?) :
    Kd.R k37 37 w' N ok (.slice (some ⟨gp, 0, none⟩) (fl.length - 1) c) (fl.eraseIdx i) := by
  obtain ⟨h0, inner, ho', hr⟩ := h
  have e15 : k37.sz = 15 := rfl
  rw [e15] at ho' hr
  rcases ho'.2 with ⟨e, _⟩ | ⟨g, cap, cur0, e, hb, hh, hnc, hcm, hcs, ht⟩
  · cases e
  injection e with e1 e2 e3
  injection e1 with e1
  injection e1 with e1 _
  subst e1 e3
  rw [hcur] at hh
  injection hh with hh
  injection hh with hh _ _
  subst hh
  have hle : (fl.eraseIdx i).length = fl.length - 1 := List.length_eraseIdx_of_lt hi
  have hin : inner.length = fl.length * 15 := hr.1
  refine ⟨fun k hk => h0 k hk, cur2.toList.take ((fl.length - 1) * 15), ?_, ?_⟩
  · rw [hle, e15]
    refine ⟨?_, .inr ⟨gp, c, cur2, rfl, hb, hw', by omega, hcm, by rw [hsz, hcs], rfl⟩⟩
    have hl2 : cur2.toList.length = c * 15 := by simp [hsz, hcs, e15]
    rw [List.length_take, hl2]
    exact Nat.min_eq_left (Nat.mul_le_mul_right _ (by omega))
  · rw [htk, e15, List.eraseIdx_eq_take_drop_succ]
    have r1 := Kd.reps_take (m := i) hr (by omega)
    have r2 := Kd.reps_drop (m := i + 1) hr
    have r3 := Kd.reps_append r1 r2
    rw [← ht, List.take_take, Nat.min_eq_left (Nat.mul_le_mul_right _ (by omega))] at r3
    refine r3.imp_ (fun p cs hp => ?_)
    refine k37.M_move (fun k hk => ho k (fun e => ?_)) hp
    exact hk.2 (by rw [e]; rfl)
theorem lists_del {α : Type} (L Z15 : List α) (i n c : Nat) (hi : i < n) (hn : n ≤ c) (hL : L.length = c * 15) (hz : Z15.length = 15) (news T : List α) (hnews : news = (L.drop ((i + 1) * 15)).take ((n - (i + 1)) * 15))
    (hT : T = L.take (i * 15) ++ news ++ L.drop (i * 15 + news.length)) :
    (T.take ((n - 1) * 15) ++ Z15 ++ T.drop ((n - 1) * 15 + Z15.length)).take ((n - 1) * 15) = L.take (i * 15) ++ (L.take (n * 15)).drop ((i + 1) * 15) ∧ T.length = c * 15 ∧ news.length = (n - (i + 1)) * 15 ∧ (T.take ((n - 1) * 15) ++ Z15 ++ T.drop ((n - 1) * 15 + Z15.length)).length = c * 15 := by
  have hnl : news.length = (n - (i + 1)) * 15 := by rw [hnews, List.length_take, List.length_drop, hL]; omega
  have hTl : T.length = c * 15 := by rw [hT, List.length_append, List.length_append, List.length_take, List.length_drop, hnl, hL]; omega
  refine ⟨?_, hTl, hnl, ?_⟩
  · have h1 : (T.take ((n - 1) * 15)).length = (n - 1) * 15 := by rw [List.length_take, hTl]; omega
    rw [List.append_assoc, List.take_append_of_le_length (by rw [h1]; exact Nat.le_refl _), List.take_take, Nat.min_self]
    have h2 : (L.take (i * 15) ++ news).length = (n - 1) * 15 := by rw [List.length_append, List.length_take, hnl, hL]; omega
    rw [hT, ← h2, List.take_left]
    congr 1
    rw [hnews, List.drop_take]
    congr 1
    omega
  · rw [List.length_append, List.length_append, List.length_take, List.length_drop, hTl, hz]; omega
theorem cut2 {A : Option Addr} {n c lo hi : Nat} (h1 : lo ≤ hi) (h2 : hi ≤ c) (W : World) : (Instr.slice 24 (.slice A n c) (some (.int .i64 (lo : Int))) (some (.int .i64 (hi : Int))) none).run Try.prog W = .ok (.slice (if c = lo then A else A.map (·.add (lo * 15))) (hi - lo) (c - lo)) W := by
  obtain ⟨i0, hi0, _, hsz0, _⟩ := info_parts info37_
  have hel : Try.prog.elem 24 = 37 := by simp [Program.elem, Try.underlying24]
  have hu : Try.prog.underlying 24 = some (.slice (Try.prog.elem 24)) := by rw [hel]; exact Try.underlying24
  rw [run_slice_lh W 24 A n c hu .i64 .i64 (lo : Int) (hi : Int) (by omega) (by omega) (by omega), hel]
  simp [sizeOf, typeInfo, hi0, hsz0, sliced, Result.andThen]
theorem cut3 {A : Option Addr} {n c lo hi mx : Nat} (h1 : lo ≤ hi) (h2 : hi ≤ mx) (h3 : mx ≤ c) (W : World) : (Instr.slice 24 (.slice A n c) (some (.int .i64 (lo : Int))) (some (.int .i64 (hi : Int))) (some (.int .i64 (mx : Int)))).run Try.prog W = .ok (.slice (if mx = lo then A else A.map (·.add (lo * 15))) (hi - lo) (mx - lo)) W := by
  obtain ⟨i0, hi0, _, hsz0, _⟩ := info_parts info37_
  have hel : Try.prog.elem 24 = 37 := by simp [Program.elem, Try.underlying24]
  have hu : Try.prog.underlying 24 = some (.slice (Try.prog.elem 24)) := by rw [hel]; exact Try.underlying24
  have e1 : (0 : Int) ≤ (lo : Int) := by omega
  have e2 : (lo : Int) ≤ (hi : Int) := by omega
  have e3 : (hi : Int) ≤ (mx : Int) := by omega
  have e4 : (mx : Int) ≤ (c : Int) := by omega
  have e5 : (0 : Int) ≤ (hi : Int) := by omega
  have e6 : (0 : Int) ≤ (mx : Int) := by omega
  rw [run_slice_any W 24 A n c hu, hel]
  simp [Instr.sliceBounds, run_sliceBound, sizeOf, typeInfo, hi0, hsz0, sliced, Result.andThen, h1, h2, h3]
def z15 : List Value := [.int .i64 0, .int .i64 0, .int .i64 0, .int .i64 0, .int .i64 0, .int .i64 0, .int .i64 0, .int .i64 0, .int .i64 0, .int .i64 0, .int .i64 0, .int .i64 0, .bool false, .slice none 0 0, .slice none 0 0]
theorem zero37 (W : World) : (zeroValue 37).run Try.prog W = .ok (.agg #[.int .i64 0, .int .i64 0, .int .i64 0, .int .i64 0, .int .i64 0, .int .i64 0, .int .i64 0, .int .i64 0, .int .i64 0, .int .i64 0, .int .i64 0, .int .i64 0, .bool false, .slice none 0 0, .slice none 0 0]) W := by
  obtain ⟨i0, hi0, hz0, hsz0, _⟩ := info_parts info37_
  simp [zeroValue, typeInfo, hi0, hz0]
theorem zc37 : (Builtin.zeroCells (Value.agg #[.int .i64 0, .int .i64 0, .int .i64 0, .int .i64 0, .int .i64 0, .int .i64 0, .int .i64 0, .int .i64 0, .int .i64 0, .int .i64 0, .int .i64 0, .int .i64 0, .bool false, .slice none 0 0, .slice none 0 0]).cells 1).toList = z15 := by kernel_rfl
theorem clear_run {W : World} {gp m c : Nat} {T : Array Value} (hT : W.heap[gp]? = some (.cells T 37 (0, 0))) (hm : m * 15 + 15 ≤ T.size) (ty : TypeId) :
    (Builtin.clear_ #[24] ty #[.slice (some ⟨gp, m * 15, none⟩) 1 c]).run Try.prog W = .ok (.tuple #[]) (W.setRow gp (T.toList.take (m * 15) ++ z15 ++ T.toList.drop (m * 15 + z15.length)).toArray) := by
  have hst := run_storeCells_at (P := Try.prog) gp (m * 15) 37 z15 0 T W hT (by show m * 15 + 0 + 15 ≤ T.size; omega) (by intro v hv; simp [z15] at hv; rcases hv with rfl | rfl | rfl <;> rfl)
  simp only [Nat.add_zero] at hst
  simp [Builtin.clear_, run_underlying Try.underlying24, zero37, zc37, hst]
theorem app_run {W : World} {gp i n c : Nat} {cur : Array Value} {B : Addr} (hW : W.heap[gp]? = some (.cells cur 37 (0, 0))) (hs : cur.size = c * 15) (hi : i < n) (hn : n ≤ c) (hB : c ≠ i + 1 → B = ⟨gp, (i + 1) * 15, none⟩)
    (h1 : ∀ u ∈ (cur.toList.drop ((i + 1) * 15)).take ((n - (i + 1)) * 15), u.oneCell' = true) :
    (Builtin.append_ #[24, 24] 24 #[.slice (some ⟨gp, 0, none⟩) i c, .slice (some B) (n - (i + 1)) (c - (i + 1))]).run Try.prog W =
      .ok (.slice (some ⟨gp, 0, none⟩) (n - 1) c) (W.setRow gp (cur.toList.take (i * 15) ++ (cur.toList.drop ((i + 1) * 15)).take ((n - (i + 1)) * 15) ++ cur.toList.drop (i * 15 + ((cur.toList.drop ((i + 1) * 15)).take ((n - (i + 1)) * 15)).length)).toArray) := by
  obtain ⟨i0, hi0, hz0, hsz0, _⟩ := info_parts info37_
  have hl : ((cur.toList.drop ((i + 1) * 15)).take ((n - (i + 1)) * 15)).length = (n - (i + 1)) * 15 := by
    rw [List.length_take, List.length_drop, Array.length_toList, hs]; omega
  have hr := run_append_room (P := Try.prog) (w := W) 24 24 37 i0 Try.underlying24 hi0 gp i c cur hW B (n - (i + 1)) (c - (i + 1)) ((cur.toList.drop ((i + 1) * 15)).take ((n - (i + 1)) * 15)) (by rw [hl, hsz0]) ?_ h1 (by omega) (by rw [hsz0, hl, hs]; omega)
  · rw [hsz0] at hr
    rw [hr, show i + (n - (i + 1)) = n - 1 by omega]
  · intro q u hu
    have hq : q < (n - (i + 1)) * 15 := by
      have := (List.getElem?_eq_some_iff.1 hu).1
      rw [hl] at this; exact this
    obtain rfl := hB (by omega)
    have e1 : (⟨gp, (i + 1) * 15, none⟩ : Addr).add q = ⟨gp, (i + 1) * 15 + q, none⟩ := by
      rcases Nat.eq_zero_or_pos q with rfl | hp
      · simp [Addr.add]
      · have hz : q ≠ 0 := by omega
        simp [Addr.add, hz]
    rw [e1, blk_cell hW, ← hu, List.getElem?_take_of_lt hq, List.getElem?_drop, Array.getElem?_toList]
end Go.Proofs.Ythgdojaildccaaa.M
