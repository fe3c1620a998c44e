/-
  WHAT COMES IN, OPENED BY ITS KIND: a value that can be read as data is what its kind tells (Kd.K), each number in its range, each row within the form's reach.
-/
import Derived.Test.YtianljjmnpdkcaaXWords
import Derived.Deep.Slices
import Derived.SizedLaws
import Derived.ChangeOld
import Derived.ProofKit
import Derived.OpenShut
import Derived.ShutString
import Derived.Below
namespace Go.Proofs.YtianljjmnpdkcaaW.PrintWords
open Go.RowKit Go.ChangeShapes Go.WideShapes
/-- read as data, at type T: the kind's value, and what is known of it -/
def Opens {α : Type} (P : Program) (W : World) (T : TypeId) (d : Kd α) (G : α → Prop) : Prop :=
  ∀ (H : Type) (enc : TypeId × Value → H) (fuel : Nat) (cs : List Value) (dd : DataW H) (ps : List MemPlace),
    DataW.trod enc P W 0 (fun _ => true) true fuel T cs = some (dd, ps) → (∀ n ∈ dd.weights P T, n ≤ reachBytes) → ∃ x, d.K W x cs ∧ G x
theorem opens_int {P : Program} {W : World} {T : TypeId} {k : IntKind} (hu : P.underlying T = some (.int k)) : Opens P W T (Kd.int k) (fun n => (Lit.int k n).wf = true) := by
  intro H enc fuel cs dd ps h _
  obtain ⟨n, rfl, _, hw⟩ := DataW.trod_int hu h
  exact ⟨n, rfl, hw⟩
theorem opens_bool {P : Program} {W : World} {T : TypeId} (hu : P.underlying T = some .bool) : Opens P W T Kd.bool (fun _ => True) := by
  intro H enc fuel cs dd ps h _
  obtain ⟨n, rfl, _⟩ := DataW.trod_bool hu h
  exact ⟨n, rfl, trivial⟩
theorem opens_string {P : Program} {W : World} {T : TypeId} (hu : P.underlying T = some .string) : Opens P W T Kd.string (fun s => s.size ≤ 140737488351232) := by
  intro H enc fuel cs dd ps h hw
  obtain ⟨s, rfl, he, _⟩ := DataW.trod_string hu h
  refine ⟨s, rfl, ?_⟩
  simp only [Prod.mk.injEq] at he
  obtain ⟨rfl, rfl⟩ := he
  have := hw s.data.toList.length (by simp [DataW.weights])
  rw [Array.length_toList] at this
  exact this
theorem choose_list {α : Type} {p : Nat → α → Prop} : ∀ (n : Nat), (∀ i, i < n → ∃ x, p i x) → ∃ xs : List α, xs.length = n ∧ ∀ i x, xs[i]? = some x → p i x
  | 0, _ => ⟨[], rfl, fun i x h => by simp at h⟩
  | n + 1, h => by
    obtain ⟨xs, hl, hx⟩ := choose_list n (fun i hi => h i (Nat.lt_succ_of_lt hi))
    obtain ⟨y, hy⟩ := h n (Nat.lt_succ_self n)
    refine ⟨xs ++ [y], by simp [hl], fun i x hi => ?_⟩
    rcases Nat.lt_or_ge i n with hlt | hge
    · rw [List.getElem?_append_left (by omega)] at hi
      exact hx i x hi
    · have : i = n := by
        have := (List.getElem?_eq_some_iff.1 hi).1
        simp [hl] at this
        omega
      subst this
      rw [List.getElem?_append_right (by omega), hl, Nat.sub_self] at hi
      simp at hi
      exact hi ▸ hy
theorem weightsAll_mem {H : Type} {P : Program} {e : TypeId} : ∀ {l : List (DataW H)} {d : DataW H}, d ∈ l → ∀ n ∈ d.weights P e, n ∈ DataW.weightsAll P e l
  | x :: l, d, hd, n, hn => by
    simp only [DataW.weightsAll, List.mem_append]
    rcases List.mem_cons.1 hd with rfl | hd
    · exact .inl hn
    · exact .inr (weightsAll_mem hd n hn)
theorem opens_row {α : Type} {P : Program} {W : World} {T e : TypeId} {d : Kd α} {G : α → Prop} (hu : P.underlying T = some (.slice e)) (hs : P.cellsOf e = d.sz) (ho : Opens P W e d G)
    {H : Type} {enc : TypeId × Value → H} {fuel : Nat} {cs : List Value} {dd : DataW H} {ps : List MemPlace}
    (h : DataW.trod enc P W 0 (fun _ => true) true fuel T cs = some (dd, ps)) (hw : ∀ n ∈ dd.weights P T, n ≤ reachBytes) :
    ∃ (A : Option Addr) (c : Nat) (xs : List α), cs = [.slice A xs.length c] ∧ xs.length ≤ c ∧ c ≤ maxLen ∧ d.C W A xs.length xs ∧ xs.length * P.bytesOf e ≤ 140737488351232 ∧ ∀ x ∈ xs, G x := by
  rcases Deep.open_slice hu h with ⟨rfl, _⟩ | ⟨a, len, cap, m, n, D, Pl, rfl, _, hl, hm, hmm, hx, hel⟩
  · exact ⟨none, 0, [], rfl, Nat.le_refl _, Nat.zero_le _, Kd.C_nil _ _, by simp, fun x hx => by simp at hx⟩
  · simp only [Prod.mk.injEq] at hx
    obtain ⟨rfl, _⟩ := hx
    have hm' : m = cap := by simpa using hmm
    subst hm'
    have hwe : (len + (m - len)) * P.bytesOf e ≤ reachBytes := by
      refine hw _ ?_
      simp [DataW.weights, hu]
    obtain ⟨xs, hxl, hxs⟩ := choose_list (p := fun i x => (∃ c, c.length = d.sz ∧ d.K W x c ∧ ∀ j u, c[j]? = some u → W.cell? (a.add (i * d.sz + j)) = some u) ∧ G x) len (fun i hi => by
      obtain ⟨cs', h1, h2⟩ := hel i (by omega)
      obtain ⟨x, hk, hg⟩ := ho H enc n cs' (D i) (Pl i) h2 (fun k hk => hw k (by
        simp only [DataW.weights, hu, List.mem_cons, List.mem_append]
        exact .inr (.inl (weightsAll_mem (List.mem_map.2 ⟨i, List.mem_range.2 hi, rfl⟩) k hk))))
      obtain ⟨_, hlen, hcell⟩ := World.cells?_some h1
      refine ⟨x, ⟨cs', by rw [hlen, hs], hk, fun j u hj => ?_⟩, hg⟩
      have hjl : j < P.cellsOf e := by
        have := (List.getElem?_eq_some_iff.1 hj).1
        omega
      have := hcell j hjl
      rw [Deep.add_add, hs] at this
      rw [this]
      exact hj)
    refine ⟨some a, m, xs, by rw [hxl], by omega, hm, ⟨rfl, ?_, fun hn => ⟨a, rfl, fun j p hj => (hxs j p hj).1⟩⟩, ?_, fun x hx => ?_⟩
    · have : m ≤ 9223372036854775807 := hm
      omega
    · have h1 : xs.length * P.bytesOf e ≤ (len + (m - len)) * P.bytesOf e := Nat.mul_le_mul_right _ (by omega)
      exact Nat.le_trans h1 hwe
    · obtain ⟨i, hi, he⟩ := List.mem_iff_getElem.1 hx
      exact (hxs i x (by rw [List.getElem?_eq_getElem hi, he])).2
theorem opens_slice {α : Type} {P : Program} {W : World} {T e : TypeId} {d : Kd α} {G : α → Prop} (hu : P.underlying T = some (.slice e)) (hs : P.cellsOf e = d.sz) (ho : Opens P W e d G) :
    Opens P W T (Kd.slice e d) (fun xs => xs.length * P.bytesOf e ≤ 140737488351232 ∧ ∀ x ∈ xs, G x) := by
  intro H enc fuel cs dd ps h hw
  obtain ⟨A, c, xs, rfl, h1, _, h2, h3, h4⟩ := opens_row hu hs ho h hw
  exact ⟨xs, ⟨A, c, rfl, h1, h2⟩, h3, h4⟩
theorem struct_parts {P : Program} {T : TypeId} {fs : Array Field} (hu : P.underlying T = some (.struct fs)) {H : Type} {enc : TypeId × Value → H} {W : World} {fuel : Nat} {cs : List Value} {dd : DataW H} {ps : List MemPlace}
    (h : DataW.trod enc P W 0 (fun _ => true) true fuel T cs = some (dd, ps)) (hw : ∀ n ∈ dd.weights P T, n ≤ reachBytes) :
    cs.length = P.cellsOf T ∧ ∀ (j : Nat) (f : Field), fs.toList[j]? = some f → ∃ (fuel' : Nat) (y : DataW H) (p : List MemPlace),
      DataW.trod enc P W 0 (fun _ => true) true fuel' f.type ((cs.drop f.offset).take (P.cellsOf f.type)) = some (y, p) ∧ ∀ n ∈ y.weights P f.type, n ≤ reachBytes := by
  cases fuel with
  | zero => simp [DataW.trod] at h
  | succ n =>
    simp only [DataW.trod, hu] at h
    by_cases hl : cs.length = P.cellsOf T
    · rw [if_pos hl] at h
      obtain ⟨xs, hx, he⟩ := Option.map_eq_some_iff.1 h
      refine ⟨hl, fun j f hj => ?_⟩
      have hg := mapM_some_get hx j f hj
      have hlen := mapM_some_length hx
      have hjl : j < xs.length := by
        have := (List.getElem?_eq_some_iff.1 hj).1
        omega
      rw [List.getElem?_eq_getElem hjl] at hg
      simp only [Prod.mk.injEq] at he
      obtain ⟨rfl, _⟩ := he
      refine ⟨n, xs[j].1, xs[j].2, hg, fun k hk => hw k ?_⟩
      simp only [DataW.weights, hu]
      refine DataW.weights_mem_each (j := j) (t := f.type) (d := xs[j].1) ?_ ?_ k hk
      · rw [List.getElem?_map, hj]; rfl
      · rw [List.getElem?_map, List.getElem?_eq_getElem hjl]; rfl
    · rw [if_neg hl] at h
      simp at h
theorem part_join {α β : Type} {a : Kd α} {b : Kd β} {W : World} {x : α} {y : β} {cs : List Value} (o s : Nat) (h1 : a.K W x ((cs.drop o).take s)) (h2 : b.K W y (cs.drop (o + s))) : (Kd.pair a b).K W (x, y) (cs.drop o) :=
  ⟨(cs.drop o).take s, cs.drop (o + s), by rw [← List.drop_drop, List.take_append_drop], h1, h2⟩
theorem part_last {α : Type} {a : Kd α} {W : World} {x : α} {cs : List Value} (o s : Nat) (h1 : a.K W x ((cs.drop o).take s)) (hl : cs.length = o + s) : a.K W x (cs.drop o) := by
  rwa [List.take_of_length_le (by rw [List.length_drop]; omega)] at h1
theorem mem_all {H : Type} {P : Program} {e : TypeId} : ∀ {ds : List (DataW H)} {j : Nat} {d : DataW H}, ds[j]? = some d → ∀ n ∈ d.weights P e, n ∈ DataW.weightsAll P e ds
  | d0 :: ds, 0, d, hd, n, hn => by
    simp only [List.getElem?_cons_zero, Option.some.injEq] at hd
    subst hd
    simp only [DataW.weightsAll, List.mem_append]
    exact .inl hn
  | d0 :: ds, j + 1, d, hd, n, hn => by
    rw [List.getElem?_cons_succ] at hd
    simp only [DataW.weightsAll, List.mem_append]
    exact .inr (mem_all hd n hn)
/-- an array's elements, one by one -/
theorem arr_parts {P : Program} {T e : TypeId} {m : Nat} (hu : P.underlying T = some (.array m e)) {H : Type} {enc : TypeId × Value → H} {W : World} {fuel : Nat} {cs : List Value} {dd : DataW H} {ps : List MemPlace}
    (h : DataW.trod enc P W 0 (fun _ => true) true fuel T cs = some (dd, ps)) (hw : ∀ n ∈ dd.weights P T, n ≤ reachBytes) :
    cs.length = P.cellsOf T ∧ ∀ (j : Nat), j < m → ∃ (fuel' : Nat) (y : DataW H) (p : List MemPlace),
      DataW.trod enc P W 0 (fun _ => true) true fuel' e ((cs.drop (j * P.cellsOf e)).take (P.cellsOf e)) = some (y, p) ∧ ∀ n ∈ y.weights P e, n ≤ reachBytes := by
  cases fuel with
  | zero => simp [DataW.trod] at h
  | succ n =>
    simp only [DataW.trod, hu] at h
    by_cases hl : cs.length = P.cellsOf T
    · rw [if_pos hl] at h
      obtain ⟨xs, hx, he⟩ := Option.map_eq_some_iff.1 h
      refine ⟨hl, fun j hj => ?_⟩
      have hg := mapM_some_get hx j j (by rw [List.getElem?_range hj])
      have hlen := mapM_some_length hx
      rw [List.length_range] at hlen
      have hjl : j < xs.length := by omega
      rw [List.getElem?_eq_getElem hjl] at hg
      simp only [Prod.mk.injEq] at he
      obtain ⟨rfl, _⟩ := he
      refine ⟨n, xs[j].1, xs[j].2, hg, fun k hk => hw k ?_⟩
      simp only [DataW.weights, hu]
      exact mem_all (j := j) (d := xs[j].1) (by rw [List.getElem?_map, List.getElem?_eq_getElem hjl]; rfl) k hk
    · rw [if_neg hl] at h
      simp at h
theorem okWide_arr {P : Program} {W : World} {r : Reach} {base : Nat} {T e : TypeId} {m : Nat} {v : Value} (hu : P.underlying T = some (.array m e)) (h : Value.okWide P W r base T v) : ∃ cs, v = .agg cs := by
  unfold Value.okWide at h
  simp only [hu] at h
  obtain ⟨cs, rfl, _⟩ := h
  exact ⟨cs, rfl⟩
theorem okWide_agg {P : Program} {W : World} {r : Reach} {base : Nat} {T : TypeId} {v : Value} {fs : Array Field} (hu : P.underlying T = some (.struct fs)) (h : Value.okWide P W r base T v) : ∃ cs, v = .agg cs := by
  unfold Value.okWide at h
  simp only [hu] at h
  obtain ⟨cs, rfl, _⟩ := h
  exact ⟨cs, rfl⟩
/-- a parameter that is a struct -/
theorem opens_agg {α : Type} {P : Program} {W : World} {T : TypeId} {d : Kd α} {G : α → Prop} (ho : Opens P W T d G)
    {H : Type} {enc : TypeId × Value → H} {cs : Array Value} {dd : DataW H} {ps : List MemPlace} {ts : List TypeId} {ds : List (DataW H)} {j : Nat}
    (hsz : (DataW.weightsEach P ts ds).all (· ≤ reachBytes) = true) (ht : ts[j]? = some T) (hd : ds[j]? = some dd)
    (h : DataW.Trod enc P W 0 (fun _ => true) true T (.agg cs) dd ps) : ∃ x : α, d.K W x cs.toList ∧ G x := by
  obtain ⟨fuel, hf⟩ := h
  exact ho H enc fuel _ dd ps hf (fun n hn => by
    have := List.all_eq_true.1 hsz n (DataW.weights_mem_each ht hd n hn)
    simpa using this)
/-- a parameter that is a row -/
theorem opens_arg {α : Type} {P : Program} {W : World} {T e : TypeId} {d : Kd α} {G : α → Prop} (hu : P.underlying T = some (.slice e)) (hs : P.cellsOf e = d.sz) (ho : Opens P W e d G)
    {H : Type} {enc : TypeId × Value → H} {a : Option Addr} {len cap : Nat} {dd : DataW H} {ps : List MemPlace} {ts : List TypeId} {ds : List (DataW H)} {j : Nat}
    (hsz : (DataW.weightsEach P ts ds).all (· ≤ reachBytes) = true) (ht : ts[j]? = some T) (hd : ds[j]? = some dd)
    (h : DataW.Trod enc P W 0 (fun _ => true) true T (.slice a len cap) dd ps) :
    ∃ xs : List α, len = xs.length ∧ xs.length ≤ cap ∧ d.C W a xs.length xs ∧ xs.length * P.bytesOf e ≤ 140737488351232 ∧ ∀ x ∈ xs, G x := by
  obtain ⟨fuel, hf⟩ := h
  obtain ⟨A, c, xs, hcs, h1, _, h2, h3, h4⟩ := opens_row hu hs ho hf (fun n hn => by
    have := List.all_eq_true.1 hsz n (DataW.weights_mem_each ht hd n hn)
    simpa using this)
  simp [Value.cells] at hcs
  obtain ⟨rfl, rfl, rfl⟩ := hcs
  exact ⟨xs, rfl, h1, h2, h3, h4⟩
end Go.Proofs.YtianljjmnpdkcaaW.PrintWords
