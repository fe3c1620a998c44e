/-
  A torn end: records of which the last bytes are missing, and the last that is there is another one: all whole ones are read, and nothing else: for any lists of bytes, any cut and any byte (more than 10 records, or one of more than 300 bytes, are let go by the statement itself).
-/
import Derived.Test.YtipkgplkeebhkaaRowFrameTorn
import Derived.Test.YtipkgplkeebhkaaPFrame
namespace Go.Proofs.Ytipkgplkeebhkaa.Pure
open Go.RowKit Go.Proofs.Ytipkgplkeebhkaa.M Go.Proofs.YtipkgplkeebhkaaW.PrintWords Go.Proofs.YtipkgplkeebhkaaW.PrintLast Go.Proofs.YtipkgplkeebhkaaW.PrintMore
namespace Torn
open _root_.Go.Proofs.Ytipkgplkeebhkaa.Pure.Frame
theorem threshold {p : Nat → Prop} [DecidablePred p] (hd : ∀ j, p (j + 1) → p j) (n : Nat) : ∃ w, w ≤ n ∧ (∀ j, j < w → p j) ∧ ∀ j, w ≤ j → j < n → ¬ p j := by
  have down : ∀ (d j : Nat), p (j + d) → p j := by
    intro d
    induction d with
    | zero => intro j h; exact h
    | succ d ih => intro j h; exact ih j (hd (j + d) h)
  induction n with
  | zero => exact ⟨0, Nat.le_refl _, fun j hj => by omega, fun j _ hj => by omega⟩
  | succ n ih =>
    obtain ⟨w, h1, h2, h3⟩ := ih
    by_cases hw : w = n
    · by_cases hp : p n
      · exact ⟨n + 1, Nat.le_refl _, fun j hj => by
          by_cases e : j = n
          · exact e ▸ hp
          · exact h2 j (by omega), fun j hj hj2 => by omega⟩
      · refine ⟨n, by omega, fun j hj => h2 j (by omega), fun j hj hj2 => ?_⟩
        have : j = n := by omega
        exact this ▸ hp
    · refine ⟨w, by omega, h2, fun j hj hj2 hp => ?_⟩
      by_cases e : j = n
      · subst e
        refine h3 w (Nat.le_refl _) (by omega) (down (j - w) w ?_)
        rw [show w + (j - w) = j by omega]
        exact hp
      · exact h3 j hj (by omega) hp
def E (ds : List (List Int)) (j : Nat) : Nat := (all (ds.take j)).length
def ends (ds : List (List Int)) (n : Nat) : List Int := (List.range n).map fun j => (E ds (j + 1) : Int)
theorem E_succ (ds : List (List Int)) (j : Nat) (h : j < ds.length) : E ds (j + 1) = E ds j + 8 + ds[j].length := by
  unfold E
  rw [List.take_succ_eq_append_getElem h, all_append, List.length_append]
  show _ + (rec_ ds[j] ++ []).length = _
  rw [List.append_nil, rec_length]
  omega
theorem E_le (ds : List (List Int)) (hl : ds.length ≤ 20) (h3 : ∀ d ∈ ds, d.length ≤ 1000) : ∀ j, E ds j ≤ 20160 ∧ (j ≤ ds.length → E ds j ≤ 1008 * j) := by
  have key : ∀ j, j ≤ ds.length → E ds j ≤ 1008 * j := by
    intro j
    induction j with
    | zero => intro _; simp [E, all]
    | succ j ih =>
      intro hj
      rw [E_succ ds j (by omega)]
      have := ih (by omega)
      have := h3 ds[j] (List.getElem_mem (by omega))
      omega
  intro j
  refine ⟨?_, key j⟩
  by_cases hj : j ≤ ds.length
  · have := key j hj; omega
  · have : E ds j = E ds ds.length := by
      unfold E
      rw [List.take_of_length_le (by omega), List.take_length]
    rw [this]
    have := key ds.length (Nat.le_refl _)
    omega
theorem rdL (ds : List (List Int)) (j : Nat) (h : j < ds.length) : rd_L3 ds (j : Int) = ds[j] := by
  unfold rd_L3
  rw [Int.toNat_natCast, List.getD_eq_getElem?_getD, List.getElem?_eq_getElem h]
  rfl
theorem l2_ev (ds : List (List Int)) (hl : ds.length ≤ 20) (w : Nat) (hw : w ≤ ds.length) (d : Nat) : ∀ i, i + d = w →
    Ev (fun k => contralaw05_FrameTorn.l2 k ds (ends ds ds.length) (w : Int) (ds.take w) (E ds w : Int) (w : Int) (i : Int)) true := by
  induction d with
  | zero =>
    intro i hi
    refine Ev.up ?_
    simp only [contralaw05_FrameTorn.l2]
    refine Ev.neg (by omega) ?_
    by_cases h0 : w = 0
    · subst h0
      exact Ev.pos rfl (Ev.pos rfl (Ev.now _))
    · refine Ev.neg (by omega) (Ev.pos (by omega) ?_)
      rw [w64 (by omega) (by omega)]
      refine Ev.pos (by omega) (Ev.pos (by simp [ends]; omega) (Ev.some_ ?_))
      rw [beq_iff_eq]
      unfold rd ends
      have e : ((w : Int) - 1).toNat = w - 1 := by omega
      rw [e, List.getD_eq_getElem?_getD, List.getElem?_map, List.getElem?_range (by omega)]
      show _ = (E ds (w - 1 + 1) : Int)
      rw [show w - 1 + 1 = w by omega]
  | succ d ih =>
    intro i hi
    refine Ev.up ?_
    simp only [contralaw05_FrameTorn.l2]
    have hlt : i < (ds.take w).length := by rw [List.length_take]; omega
    refine Ev.pos (by omega) (Ev.pos (by omega) (Ev.pos (by omega) (Ev.pos (by omega) (Ev.pos ?_ ?_))))
    · rw [rdL _ i hlt, rdL ds i (by omega), List.getElem_take]
    · rw [w64 (by omega) (by omega)]
      exact ih (i + 1) (by omega)
theorem l1_ev (ds : List (List Int)) (hl : ds.length ≤ 20) (x13 : List Int) (cut : Nat) (t : Int) (w : Nat) (hw : w ≤ ds.length) (hb : Bytes x13) (hx : x13.length ≤ 134217728)
    (h1 : ∀ j, j < w → (E ds (j + 1) < cut ∨ (E ds (j + 1) = cut ∧ t = 0))) (h2 : ∀ j, w ≤ j → j < ds.length → ¬ (E ds (j + 1) < cut ∨ (E ds (j + 1) = cut ∧ t = 0)))
    (hs : scan 134217728 x13 = (ds.take w, (E ds w : Int))) (d : Nat) : ∀ i, i + d = ds.length →
    Ev (fun k => contralaw05_FrameTorn.l1 k ds (cut : Int) t (ends ds ds.length) x13 ((min i w : Nat) : Int) (ends ds ds.length) (ds.length : Int) (i : Int)) true := by
  induction d with
  | zero =>
    intro i hi
    refine Ev.up ?_
    simp only [contralaw05_FrameTorn.l1]
    refine Ev.neg (by omega) ?_
    have hsc := scan_ev x13 hb hx 134217728 0 [] (Nat.zero_le _) (by omega) (by decide)
    rw [List.drop_zero, hs] at hsc
    refine Ev.bind (a := (ds.take w, (E ds w : Int))) ?_ ?_
    · unfold frame_Scan.f
      refine Ev.eq hsc ?_
      simp
    have hm : min i w = w := by omega
    rw [hm]
    refine Ev.pos (by dsimp only; rw [List.length_take]; omega) ?_
    dsimp only
    have := l2_ev ds hl w hw w 0 (by omega)
    have e : (ds.take w).length = w := by rw [List.length_take]; omega
    rw [e]
    exact this
  | succ d ih =>
    intro i hi
    refine Ev.up ?_
    simp only [contralaw05_FrameTorn.l1]
    have hlen : (ends ds ds.length).length = ds.length := by simp [ends]
    have hi2 : i < ds.length := by omega
    refine Ev.pos (by omega) (Ev.pos (by omega) (Ev.pos (by omega) ?_))
    have er : rd (ends ds ds.length) (i : Int) = (E ds (i + 1) : Int) := by
      unfold rd ends
      rw [Int.toNat_natCast, List.getD_eq_getElem?_getD, List.getElem?_map, List.getElem?_range hi2]
      rfl
    rw [er]
    have e3 : wrap64 ((i : Int) + 1) = ((i + 1 : Nat) : Int) := by rw [w64 (by omega) (by omega)]; omega
    rw [e3]
    have e4 : i < w → wrap64 (((min i w : Nat) : Int) + 1) = ((min (i + 1) w : Nat) : Int) := fun h => by rw [w64 (by omega) (by omega)]; omega
    have e5 : w ≤ i → min (i + 1) w = min i w := fun h => by omega
    have hn := ih (i + 1) (by omega)
    by_cases hlt : E ds (i + 1) < cut
    · have hiw : i < w := Nat.lt_of_not_le fun h => h2 i h hi2 (.inl hlt)
      refine Ev.pos (by omega) ?_
      rw [e4 hiw]
      exact hn
    · refine Ev.neg (by omega) ?_
      by_cases heq : E ds (i + 1) = cut
      · refine Ev.pos (by omega) ?_
        by_cases ht : t = 0
        · have hiw : i < w := Nat.lt_of_not_le fun h => h2 i h hi2 (.inr ⟨heq, ht⟩)
          refine Ev.pos ht ?_
          rw [e4 hiw]
          exact hn
        · have hiw : w ≤ i := Nat.le_of_not_lt fun h => (h1 i h).elim hlt (fun h' => ht h'.2)
          refine Ev.neg ht ?_
          rw [e5 hiw] at hn
          exact hn
      · have hiw : w ≤ i := Nat.le_of_not_lt fun h => (h1 i h).elim hlt (fun h' => heq h'.1)
        refine Ev.neg (by omega) ?_
        rw [e5 hiw] at hn
        exact hn
theorem torn_scan (ds : List (List Int)) (hb : ∀ d ∈ ds, Bytes d) (hl : ds.length ≤ 20) (h3 : ∀ d ∈ ds, d.length ≤ 1000) (cut : Nat) (hc : cut ≤ (all ds).length) (t : Int) (ht : Crc.Byte t) (w : Nat) (hw : w ≤ ds.length)
    (h1 : ∀ j, j < w → (E ds (j + 1) < cut ∨ (E ds (j + 1) = cut ∧ t = 0))) (h2 : ∀ j, w ≤ j → j < ds.length → ¬ (E ds (j + 1) < cut ∨ (E ds (j + 1) = cut ∧ t = 0))) :
    scan 134217728 (marLast ((all ds).take cut) t) = (ds.take w, (E ds w : Int)) := by
  have hE : E ds w ≤ cut ∧ (E ds w = cut → w = 0 ∨ t = 0) := by
    cases w with
    | zero => exact ⟨by simp [E, all], fun _ => .inl rfl⟩
    | succ w => rcases h1 w (by omega) with h | h <;> exact ⟨by omega, fun e => by first | omega | exact .inr h.2⟩
  have hsplit : all ds = all (ds.take w) ++ all (ds.drop w) := by rw [← all_append, List.take_append_drop]
  have hba : Bytes (all ds) := all_bytes hb
  have hgood : ∀ d ∈ ds.take w, Bytes d ∧ d.length ≤ 16384 := fun d hd => ⟨hb d (List.mem_of_mem_take hd), by have := h3 d (List.mem_of_mem_take hd); omega⟩
  have htake : (all ds).take cut = all (ds.take w) ++ (all (ds.drop w)).take (cut - E ds w) := by
    rw [hsplit, List.take_append, List.take_of_length_le (by have := hE.1; unfold E at this; exact this)]
    rfl
  by_cases hcut : E ds w = cut
  · have hr : (all (ds.drop w)).take (cut - E ds w) = [] := by rw [show cut - E ds w = 0 by omega]; rfl
    rw [htake, hr]
    have hm : marLast (all (ds.take w) ++ []) t = all (ds.take w) ++ [] := by
      rcases hE.2 hcut with h | h
      · subst h; rfl
      · subst h
        exact marLast_zero (by rw [List.append_nil]; exact all_bytes (fun d hd => (hgood d hd).1))
    rw [hm]
    exact scan_all _ _ _ (by rw [List.length_take]; omega) hgood (.inl rfl)
  · have hwl : w < ds.length := by
      refine Nat.lt_of_not_le fun h => ?_
      have : w = ds.length := by omega
      subst this
      have : E ds ds.length = (all ds).length := by unfold E; rw [List.take_length]
      omega
    have hng := h2 w (Nat.le_refl _) hwl
    have hEs := E_succ ds w hwl
    have hdrop : ds.drop w = ds[w] :: ds.drop (w + 1) := List.drop_eq_getElem_cons hwl
    have hrl := rec_length ds[w]
    have hcw : cut - E ds w ≤ (rec_ ds[w]).length := by
      have : ¬ E ds (w + 1) < cut := fun h => hng (.inl h)
      omega
    have hr : (all (ds.drop w)).take (cut - E ds w) = (rec_ ds[w]).take (cut - E ds w) := by
      rw [hdrop, all_cons, List.take_append_of_le_length hcw]
    have hne : (rec_ ds[w]).take (cut - E ds w) ≠ [] := by
      intro e
      have h7 := congrArg List.length e
      rw [List.length_take, List.length_nil] at h7
      have := hE.1
      omega
    rw [htake, hr, marLast_append _ _ _ hne]
    refine scan_all _ _ _ (by rw [List.length_take]; omega) hgood ?_
    refine stops_torn (hb _ (List.getElem_mem hwl)) (by have := h3 _ (List.getElem_mem hwl); omega) _ hcw ht ?_
    by_cases he : E ds (w + 1) = cut
    · right
      exact fun h => hng (.inr ⟨he, h⟩)
    · left
      have : ¬ E ds (w + 1) < cut := fun h => hng (.inl h)
      omega
theorem j1_ev (ds : List (List Int)) (hb : ∀ d ∈ ds, Bytes d) (hl : ds.length ≤ 20) (h3 : ∀ d ∈ ds, d.length ≤ 1000) (x1 t : Int) (ht : Crc.Byte t) (b : Bool) (hbf : b = false → 0 ≤ x1 ∧ x1 ≤ (all ds).length) :
    Ev (fun k => contralaw05_FrameTorn.j1 k ds x1 t (all ds) (ends ds ds.length) b) true := by
  refine Ev.up ?_
  simp only [contralaw05_FrameTorn.j1]
  cases b with
  | true => exact Ev.pos rfl (Ev.now _)
  | false =>
    obtain ⟨h0, hc⟩ := hbf rfl
    obtain ⟨cut, rfl⟩ := Int.eq_ofNat_of_zero_le h0
    have hEa : (all ds).length ≤ 20160 := by
      have := (E_le ds hl h3 ds.length).1
      unfold E at this
      rwa [List.take_length] at this
    obtain ⟨w, hw, h1, h2⟩ := threshold (p := fun j => E ds (j + 1) < cut ∨ (E ds (j + 1) = cut ∧ t = 0)) (fun j hp => by
      by_cases hj : j + 1 < ds.length
      · have := E_succ ds (j + 1) hj
        left
        rcases hp with hp | hp <;> omega
      · have : E ds (j + 1 + 1) = E ds (j + 1) := by
          unfold E
          rw [List.take_of_length_le (by omega), List.take_of_length_le (by omega)]
        rw [this] at hp
        exact hp) ds.length
    have hts := torn_scan ds hb hl h3 cut (by omega) t ht w hw h1 h2
    refine Ev.neg (by decide) (Ev.let_ (Ev.pos (by omega) (Ev.pos hc (Ev.let_ (Ev.pos ?_ (Ev.let_ ?_))))))
    · rw [Int.toNat_natCast, List.length_take]; simp; omega
    · rw [Int.toNat_natCast, List.nil_append]
      have hba : Bytes (all ds) := all_bytes hb
      have hml : (marLast ((all ds).take cut) t).length ≤ 134217728 := by rw [marLast_length, List.length_take]; omega
      have hl1 := l1_ev ds hl (marLast ((all ds).take cut) t) cut t w hw (marLast_bytes (hba.take cut) ht) hml h1 h2 hts ds.length 0 (by omega)
      have hj2 : Ev (fun k => contralaw05_FrameTorn.j2 k ds (cut : Int) t (ends ds ds.length) (marLast ((all ds).take cut) t)) true := by
        refine Ev.up ?_
        simp only [contralaw05_FrameTorn.j2]
        have e : (ends ds ds.length).length = ds.length := by simp [ends]
        rw [e]
        rw [Nat.zero_min] at hl1
        exact hl1
      by_cases hcz : cut = 0
      · subst hcz
        refine Ev.neg (by decide) ?_
        exact hj2
      · have hlen : ((all ds).take cut).length = cut := by rw [List.length_take]; omega
        refine Ev.pos (by omega) ?_
        rw [w64 (by omega) (by omega)]
        refine Ev.pos (by omega) (Ev.pos (by omega) ?_)
        have hset : ((all ds).take cut).set ((cut : Int) - 1).toNat (Go.bits .xor .u8 (rd ((all ds).take cut) ((cut : Int) - 1)) t) = marLast ((all ds).take cut) t := by
          unfold marLast
          rw [if_neg (fun e => by rw [e] at hlen; simp at hlen; omega), hlen]
          have e : ((cut : Int) - 1).toNat = cut - 1 := by omega
          unfold rd mar
          rw [e]
        rw [hset]
        exact hj2
theorem l0_ev (ds : List (List Int)) (hb : ∀ d ∈ ds, Bytes d) (hl : ds.length ≤ 10) (x1 t : Int) (ht : Crc.Byte t) (d : Nat) : ∀ i, i + d = ds.length → (∀ d ∈ ds.take i, d.length ≤ 300) →
    Ev (fun k => contralaw05_FrameTorn.l0 k ds x1 t (all (ds.take i)) (ends ds i) ds (ds.length : Int) (i : Int)) true := by
  induction d with
  | zero =>
    intro i hi h3
    have e : i = ds.length := by omega
    subst e
    rw [List.take_length] at h3 ⊢
    refine Ev.up ?_
    simp only [contralaw05_FrameTorn.l0]
    refine Ev.neg (by omega) ?_
    have h3' : ∀ d ∈ ds, d.length ≤ 1000 := fun d hd => by have := h3 d hd; omega
    by_cases hx : x1 < 0
    · exact Ev.pos hx (j1_ev ds hb (by omega) h3' x1 t ht true (by simp))
    · refine Ev.neg hx (j1_ev ds hb (by omega) h3' x1 t ht _ (fun h => ?_))
      have := of_decide_eq_false h
      omega
  | succ d ih =>
    intro i hi h3
    have hlt : i < ds.length := by omega
    refine Ev.up ?_
    simp only [contralaw05_FrameTorn.l0]
    refine Ev.pos (by omega) (Ev.pos (by omega) (Ev.pos (by omega) ?_))
    rw [rdL ds i hlt]
    by_cases h300 : (ds[i].length : Int) > 300
    · exact Ev.pos h300 (Ev.now _)
    · refine Ev.neg h300 ?_
      have hd := hb _ (List.getElem_mem hlt)
      have htk : ds.take (i + 1) = ds.take i ++ [ds[i]] := List.take_succ_eq_append_getElem hlt
      have h3n : ∀ d ∈ ds.take (i + 1), d.length ≤ 300 := fun d hd' => by
        rw [htk] at hd'
        rcases List.mem_append.1 hd' with h | h
        · exact h3 d h
        · simp at h; subst h; omega
      have hEi := (E_le (ds.take i) (by rw [List.length_take]; omega) (fun d hd => by have := h3 d hd; omega) (ds.take i).length).1
      unfold E at hEi
      rw [List.take_length] at hEi
      refine Ev.bind (append_ev (all (ds.take i)) ds[i] hd (by omega) (by omega)) (Ev.pos rfl (Ev.pos (by simp [ends]; omega) ?_))
      rw [w64 (by omega) (by omega)]
      have hal : all (ds.take (i + 1)) = all (ds.take i) ++ rec_ ds[i] := by
        rw [htk, all_append]
        show _ ++ (rec_ ds[i] ++ []) = _
        rw [List.append_nil]
      have hen : ends ds (i + 1) = ends ds i ++ [((all (ds.take i) ++ rec_ ds[i]).length : Int)] := by
        unfold ends
        rw [List.range_succ, List.map_append]
        show _ ++ [(E ds (i + 1) : Int)] = _
        unfold E
        rw [hal]
      have hn := ih (i + 1) (by omega) h3n
      rw [hal, hen] at hn
      exact hn
end Torn
theorem FrameTorn : contralaw05_FrameTorn.Pure := by
  intro l0 a1 a2 g0 _ g2
  refine Ev.rounds ?_
  unfold contralaw05_FrameTorn.f
  refine Ev.bind Frame.records_ev (Ev.pos rfl ?_)
  by_cases h1 : (l0.length : Int) > 10
  · exact Ev.pos h1 (Ev.now _)
  · exact Ev.neg h1 (Torn.l0_ev l0 (fun d hd x hx => Crc.wf_byte ((g0.2 d hd).2 x hx)) (by omega) a1 a2 (Crc.wf_byte g2) l0.length 0 (by omega) (by simp))
end Go.Proofs.Ytipkgplkeebhkaa.Pure
