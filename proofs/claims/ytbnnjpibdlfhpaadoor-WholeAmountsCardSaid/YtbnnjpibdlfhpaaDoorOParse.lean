/-
  money.Parse, of a text of digits with a point ahead of the last two.
-/
import Derived.Lib.OthersKept
import Derived.Test.YtbnnjpibdlfhpaaDoorOMoney
namespace Go.Proofs.YtbnnjpibdlfhpaaDoor.M
open Go.RowKit Go.Proofs.YtbnnjpibdlfhpaaDoorW.PrintWords Go.Proofs.YtbnnjpibdlfhpaaDoorW.PrintLast Go.Proofs.YtbnnjpibdlfhpaaDoorW.PrintMore
set_option linter.unusedVariables false
set_option linter.unusedSimpArgs false
/-- one letter more: a digit, or the point -/
def stp (v : Nat) (c : UInt8) : Nat := if c = 46 then v else 10 * v + (c.toNat - 48)
def val (l : List UInt8) : Nat := l.foldl stp 0
/-- a text of digits with a point ahead of the last two, of value u -/
structure Dg (b : List UInt8) (u : Nat) : Prop where
  lo : 4 ≤ b.length
  hi : b.length ≤ 40
  pt : b.getD (b.length - 3) 0 = 46
  hd : 4 < b.length → b.getD 0 0 ≠ 48
  dg : ∀ i, i < b.length → i ≠ b.length - 3 → 48 ≤ (b.getD i 0).toNat ∧ (b.getD i 0).toNat ≤ 57
  eq : val b = u
theorem stp_le (v : Nat) (c : UInt8) : v ≤ stp v c := by unfold stp; split <;> omega
theorem fold_le (l : List UInt8) : ∀ v, v ≤ l.foldl stp v := by
  induction l with
  | nil => exact fun v => Nat.le_refl _
  | cons c r ih => exact fun v => Nat.le_trans (stp_le v c) (ih _)
theorem val_le (b : List UInt8) (i : Nat) : val (b.take i) ≤ val b := by
  unfold val
  conv => rhs; rw [← List.take_append_drop i b, List.foldl_append]
  exact fold_le _ _
theorem val_next (b : List UInt8) (i : Nat) (h : i < b.length) : val (b.take (i + 1)) = stp (val (b.take i)) (b.getD i 0) := by
  unfold val
  rw [List.take_add_one, List.getElem?_eq_getElem h, List.foldl_append, List.getD_eq_getElem?_getD, List.getElem?_eq_getElem h]
  rfl
theorem w_arith (v d u : Nat) (h1 : 10 * v + d ≤ u) (h2 : u ≤ 9223372036854775807) (h3 : d ≤ 9) :
    wrap64 (9223372036854775807 - (d : Int)) = 9223372036854775807 - (d : Int) ∧ wrap64 (10 * (v : Int)) = 10 * (v : Int) ∧ wrap64 (d : Int) = (d : Int) ∧ wrap64 (10 * (v : Int) + (d : Int)) = 10 * (v : Int) + (d : Int) ∧ wrap64 (((d + 48 : Nat) : Int)) = ((d + 48 : Nat) : Int) ∧ wrap64 (((d + 48 : Nat) : Int) - 48) = (d : Int) := by
  unfold wrap64
  omega
theorem w_arithn (v d u : Nat) (h1 : 10 * v + d ≤ u) (h2 : u ≤ 9223372036854775808) (h3 : d ≤ 9) :
    wrap64 (-9223372036854775808 + (d : Int)) = -9223372036854775808 + (d : Int) ∧ wrap64 (10 * -(v : Int)) = 10 * -(v : Int) ∧ wrap64 (-(d : Int)) = -(d : Int) ∧ wrap64 (10 * -(v : Int) + -(d : Int)) = -(10 * (v : Int) + (d : Int)) ∧ wrap64 (((d + 48 : Nat) : Int)) = ((d + 48 : Nat) : Int) ∧ wrap64 (((d + 48 : Nat) : Int) - 48) = (d : Int) := by
  unfold wrap64
  omega
theorem qn_ {v d u : Nat} (h1 : 10 * v + d ≤ u) (h2 : u ≤ 9223372036854775808) (h3 : d ≤ 9) : (-(v : Int) < wrap64 ((-9223372036854775808 + (d : Int)).tdiv 10)) = False := by
  apply eq_false
  rw [show (-9223372036854775808 + (d : Int)) = -(9223372036854775808 - (d : Int)) by omega, Int.neg_tdiv, Int.tdiv_eq_ediv_of_nonneg (by omega)]
  unfold wrap64
  omega
theorem vb_ {v d u x y : Nat} (h5 : x = 10 * v + (y - 48)) (h6 : x ≤ u) (hd : y = d + 48) : 10 * v + d ≤ u := by omega
theorem vq_ {v d x y : Nat} (h5 : x = 10 * v + (y - 48)) (hd : y = d + 48) : (x : Int) = 10 * (v : Int) + (d : Int) := by omega
theorem q_ {v d u : Nat} (h1 : 10 * v + d ≤ u) (h2 : u ≤ 9223372036854775807) (h3 : d ≤ 9) : (wrap64 ((9223372036854775807 - (d : Int)).tdiv 10) < (v : Int)) = False := by
  rw [Int.tdiv_eq_ediv_of_nonneg (by omega)]
  apply eq_false
  unfold wrap64
  omega
theorem dn_ {d y : Nat} (h : 48 ≤ y ∧ y ≤ 57) (hd : y = d + 48) : d ≤ 9 := by omega
theorem ne46_ {c : UInt8} {y : Nat} (h : c.toNat = y) (h4 : 48 ≤ y ∧ y ≤ 57) : ¬ c = 46 := by
  intro e
  rw [e] at h
  have h3 : (46 : UInt8).toNat = 46 := rfl
  omega
theorem ni_ {i m : Nat} (h : ¬ i = m) : ¬ ((i : Int) = (m : Int)) := by omega
theorem bt_size (x : List UInt8) : (⟨x.toArray⟩ : ByteArray).size = x.length := by simp [ByteArray.size]
theorem bt_get (x : List UInt8) (i : Nat) (h : i < (⟨x.toArray⟩ : ByteArray).size) : (⟨x.toArray⟩ : ByteArray)[i] = x.getD i 0 := by
  have h' : i < x.length := by rw [bt_size] at h; exact h
  rw [List.getD_eq_getElem?_getD, List.getElem?_eq_getElem h']
  rfl
set_option maxHeartbeats 8000000 in
set_option maxRecDepth 100000 in
theorem parse_pos (b : List UInt8) (u : Nat) (G : Dg b u) (hu : u ≤ 9223372036854775807) (w : World) :
    Calls Tryd.prog 7 #[.string ⟨b.toArray⟩] w fun e w' => e = .returned (.tuple #[.int .i64 (u : Int), .int .i64 0]) ∧ Below w.heap.size w w' := by
  have GG := Aside0.mk G
  have VN := Aside0.mk (val_next b); have VL := Aside0.mk (val_le b)
  obtain ⟨n, hn⟩ : ∃ n, b.length = n := ⟨_, rfl⟩
  obtain ⟨f, hf⟩ : ∃ f : Nat → Nat, ∀ i, (b.getD i 0).toNat = f i := ⟨_, fun _ => rfl⟩
  have h4 : 4 ≤ n := hn ▸ G.lo
  have HN := Aside0.mk (show n ≤ 40 from hn ▸ G.hi)
  obtain ⟨m, hm⟩ : ∃ m, n = m + 3 := ⟨n - 3, by omega⟩
  have F46 : f m = 46 := by rw [← hf, show m = b.length - 3 by omega, G.pt]; rfl
  have FD := Aside0.mk (show ∀ i, i < n → i ≠ m → 48 ≤ f i ∧ f i ≤ 57 by intro i h1 h2; rw [← hf]; exact G.dg i (by omega) (by omega))
  have FH := Aside0.mk (show 4 < n → f 0 ≠ 48 by intro h e; have := G.hd (by omega); rw [← hf] at e; exact this (UInt8.toNat.inj e))
  have UE := Aside0.mk G.eq
  have HU := Aside0.mk hu
  obtain ⟨s, hs⟩ : ∃ s : ByteArray, (⟨b.toArray⟩ : ByteArray) = s := ⟨_, rfl⟩
  have hsz : s.size = n := by rw [← hs, ← hn]; exact bt_size b
  have hget : ∀ i (h : i < s.size), (s[i]'h).toNat = f i := by subst hs; intro i h; rw [bt_get b i h]; exact hf i
  rw [hs]
  have FN := FD.out 0 (by omega) (by omega)
  have f45 : ((f 0 : Nat) = 45) = False := eq_false (by omega)
  have f45i : (((f 0 : Nat) : Int) = 45) = False := eq_false (by omega)
  have f45b : (((f 0 : Nat) : Int) == 45) = false := beq_eq_false_iff_ne.mpr (by omega)
  have e3 : wrap64 ((n : Int) - 3) = (m : Int) := by have := HN.out; unfold wrap64; omega
  have z0 : (s.toList = []) = False := eq_false (by rw [ByteArray.toList_eq]; intro e; have e' : s.data.toList.length = 0 := (by rw [e]; rfl); rw [← Lib.size_eq, hsz] at e'; omega)
  have d1 : decide ((n : Int) < 4) = false := decide_eq_false (by omega)
  have d2 : ((n : Int) < 4) = False := eq_false (by omega)
  have d3 : (n < 4) = False := eq_false (by omega)
  have s1 : (0 : Int) ≤ (m : Int) := by omega
  have s2 : (m < n) = True := eq_true (by omega)
  have s3 : ((m : Int) < (n : Int)) = True := eq_true (by omega)
  have s4 : (0 < n) = True := eq_true (by omega)
  have HM := Aside0.mk hm; have HF := Aside0.mk hf; have HNN := Aside0.mk hn
  clear G hn hf hs hu h4 FN hm
  by_cases hc : 4 < n
  · have c1 : decide ((n : Int) > 4) = true := decide_eq_true (by omega)
    have c2 : ((4 : Int) < (n : Int)) = True := eq_true (by omega)
    have c3 : (4 < n) = True := eq_true hc
    have c4 : decide (4 < n) = true := decide_eq_true hc
    have f48 : ((f 0 : Nat) = 48) = False := eq_false (FH.out hc)
    have f48i : (((f 0 : Nat) : Int) = 48) = False := eq_false (by have := FH.out hc; omega)
    have f48b : (((f 0 : Nat) : Int) == 48) = false := beq_eq_false_iff_ne.mpr (by have := FH.out hc; omega)
    have K0 := Aside0.mk (show (w.iter s 0).heap[w.heap.size]? = some (.stringIter s 0) by have := World.iter_heap w s 0; simpa using this)
    have B0 := Aside0.mk (show Below w.heap.size w (w.iter s 0) from (Below.refl _ w).alloc (Nat.le_refl _) _)
    go_enter Tryd.func7, Tryd.ntmps7
    go_wp2_with fail
    go_loopg [44] (n + 1) (fun kq v44 w' => ∃ pos : Nat, Aside0 (pos ≤ n ∧ pos + kq = n + 1) ∧ Aside0 (w'.heap[w.heap.size]? = some (.stringIter s pos)) ∧ Aside0 (Below w.heap.size w w'))
    case atStart => exact ⟨0, ⟨by omega, by omega⟩, K0, B0⟩
    case round =>
      obtain ⟨pos, HP, KP, BP⟩ := hrel
      clear K0 B0
      by_cases hp : pos < n
      · have p1 : (pos < n) = True := eq_true hp
        have NK := Aside0.mk (show pos + 1 + (gk - 1) = n + 1 ∧ 0 < gk by have := HP.out; omega)
        have hps : pos < s.size := by omega
        have HD := Aside0.mk (show pos ≠ m → 48 ≤ f pos ∧ f pos ≤ 57 from fun h => FD.out pos hp h)
        have hlt : (s[pos]'hps).toNat < 128 := by rw [hget]; by_cases e : pos = m; · rw [e, F46]; omega
                                                  · have := HD.out e; omega
        have hnext : ∀ ty, (Instr.next (.pointer (some ⟨w.heap.size, 0, none⟩)) true ty).run Tryd.prog wr = _ := fun ty => Lib.run_next_ascii_at wr w.heap.size s pos ty KP.out hps hlt
        have KQ := Aside0.mk (Lib.iterAt_heap wr w.heap.size s pos (pos + 1) KP.out)
        have BQ := Aside0.mk (Lib.below_iterAt BP.out (Nat.le_refl _) s (pos + 1))
        rw [hget pos hps] at hnext
        clear hlt hps
        generalize wr.iterAt w.heap.size s (pos + 1) = W1 at hnext KQ BQ
        by_cases hpm : pos = m
        · subst hpm
          go_wp2_with fail
          go_roundg (gk - 1)
          case measure => have := NK.out.2; omega
          case rel => exact ⟨pos + 1, ⟨by omega, NK.out.1⟩, KQ, BQ⟩
        · have HM2 := Aside0.mk hpm
          have m1 : ((pos : Int) = (m : Int)) = False := eq_false (by omega)
          have m2 : (pos = m) = False := eq_false hpm
          have m3 : ((pos : Int) != (m : Int)) = true := bne_iff_ne.mpr (by omega)
          have g1 : decide (((f pos : Nat) : Int) < 48) = false := decide_eq_false (by have := HD.out hpm; omega)
          have g2 : decide (((f pos : Nat) : Int) > 57) = false := decide_eq_false (by have := HD.out hpm; omega)
          have g3 : (f pos < 48) = False := eq_false (by have := HD.out hpm; omega)
          have g4 : (57 < f pos) = False := eq_false (by have := HD.out hpm; omega)
          have g5 : (((f pos : Nat) : Int) < 48) = False := eq_false (by have := HD.out hpm; omega)
          have g6 : (57 < ((f pos : Nat) : Int)) = False := eq_false (by have := HD.out hpm; omega)
          go_wp2_with fail
          go_roundg (gk - 1)
          case measure => have := NK.out.2; omega
          case rel => exact ⟨pos + 1, ⟨by omega, NK.out.1⟩, KQ, BQ⟩
      · have hnext : ∀ ty, (Instr.next (.pointer (some ⟨w.heap.size, 0, none⟩)) true ty).run Tryd.prog wr = _ := fun ty => Lib.run_next_end_at wr w.heap.size s pos ty KP.out (by omega)
        clear KP HP
        go_wp2_with fail
        clear hnext
        go_loopg [9, 61] (n + 1) (fun kq v9 v61 w' => ∃ i : Nat, v61 = .int .i64 (i : Int) ∧ v9 = .int .i64 ((val (b.take i) : Nat) : Int) ∧ Aside0 (i ≤ n ∧ i + kq = n + 1) ∧ Aside0 (Below w.heap.size w w'))
        case atStart => exact ⟨0, rfl, rfl, ⟨by omega, by omega⟩, BP⟩
        case round =>
          clear BP
          obtain ⟨i, rfl, rfl, HI, BI⟩ := hrel
          by_cases hi : i < n
          · have i1 : (i < n) = True := eq_true hi
            have i2 : decide ((i : Int) < (n : Int)) = true := decide_eq_true (by omega)
            have NK := Aside0.mk (show i + 1 + (gk - 1) = n + 1 ∧ 0 < gk by have := HI.out; omega)
            have VS := Aside0.mk (VN.out i (by rw [HNN.out]; exact hi))
            have VV := Aside0.mk (show val (b.take (i + 1)) ≤ u from UE.out ▸ VL.out (i + 1))
            have BN := Aside0.mk (show wrap64 ((i : Int) + 1) = ((i + 1 : Nat) : Int) by have := HN.out; unfold wrap64; omega)
            by_cases him : i = m
            · subst him
              have V2 := Aside0.mk (show val (b.take (i + 1)) = val (b.take i) by rw [VS.out]; unfold stp; rw [if_pos (UInt8.toNat.inj (show (b.getD i 0).toNat = (46 : UInt8).toNat from (HF.out i).trans F46))])
              go_wp2_with fail
              go_roundg (gk - 1)
              case measure => have := NK.out.2; omega
              case rel => exact ⟨i + 1, by rw [BN.out], by rw [V2.out], ⟨by omega, NK.out.1⟩, BI⟩
            · have FI := Aside0.mk (FD.out i hi him)
              have V2 := Aside0.mk (show val (b.take (i + 1)) = 10 * val (b.take i) + (f i - 48) by rw [VS.out, ← HF.out i]; unfold stp; rw [if_neg (ne46_ (HF.out i) FI.out)])
              obtain ⟨d, hd⟩ : ∃ d, f i = d + 48 := ⟨f i - 48, by have := FI.out; omega⟩
              have HDD := Aside0.mk hd
              have VV2 := VV
              generalize val (b.take i) = v at V2 ⊢
              have m1 : ((i : Int) = (m : Int)) = False := eq_false (ni_ him)
              have m2 : (i = m) = False := eq_false him
              have m3 : ((i : Int) == (m : Int)) = false := beq_eq_false_iff_ne.mpr (ni_ him)
              have VB := Aside0.mk (vb_ V2.out VV2.out hd)
              obtain ⟨e6, e7, e8, e9, e4, e5⟩ := w_arith v d u VB.out HU.out (dn_ FI.out hd)
              rw [← hd] at e4 e5
              have e10 := q_ VB.out HU.out (dn_ FI.out hd)
              clear hd
              go_wp2_with fail
              go_roundg (gk - 1)
              case measure => have := NK.out.2; omega
              case rel => exact ⟨i + 1, by rw [BN.out], by rw [vq_ V2.out HDD.out, e9], ⟨by omega, NK.out.1⟩, BI⟩
          · have i1 : (i < n) = False := eq_false hi
            have i2 : decide ((i : Int) < (n : Int)) = false := decide_eq_false (by omega)
            have UV := Aside0.mk (show val (b.take i) = u by rw [List.take_of_length_le (by rw [HNN.out]; omega)]; exact UE.out)
            rw [UV.out]
            go_wp2_with fail
            all_goals go_ret2
            all_goals exact ⟨by first | rfl | (simp [*]; done), by repeat (first | exact BI.out | apply pw_below_drewN | apply below_drew1)⟩
  · have c1 : decide ((n : Int) > 4) = false := decide_eq_false (by omega)
    have c2 : ((4 : Int) < (n : Int)) = False := eq_false (by omega)
    have c3 : (4 < n) = False := eq_false hc
    have c4 : decide (4 < n) = false := decide_eq_false hc
    have HC := Aside0.mk hc
    clear hc
    have K0 := Aside0.mk (show (w.iter s 0).heap[w.heap.size]? = some (.stringIter s 0) by have := World.iter_heap w s 0; simpa using this)
    have B0 := Aside0.mk (show Below w.heap.size w (w.iter s 0) from (Below.refl _ w).alloc (Nat.le_refl _) _)
    go_enter Tryd.func7, Tryd.ntmps7
    go_wp2_with fail
    go_loopg [44] (n + 1) (fun kq v44 w' => ∃ pos : Nat, Aside0 (pos ≤ n ∧ pos + kq = n + 1) ∧ Aside0 (w'.heap[w.heap.size]? = some (.stringIter s pos)) ∧ Aside0 (Below w.heap.size w w'))
    case atStart => exact ⟨0, ⟨by omega, by omega⟩, K0, B0⟩
    case round =>
      obtain ⟨pos, HP, KP, BP⟩ := hrel
      clear K0 B0
      by_cases hp : pos < n
      · have p1 : (pos < n) = True := eq_true hp
        have NK := Aside0.mk (show pos + 1 + (gk - 1) = n + 1 ∧ 0 < gk by have := HP.out; omega)
        have hps : pos < s.size := by omega
        have HD := Aside0.mk (show pos ≠ m → 48 ≤ f pos ∧ f pos ≤ 57 from fun h => FD.out pos hp h)
        have hlt : (s[pos]'hps).toNat < 128 := by rw [hget]; by_cases e : pos = m; · rw [e, F46]; omega
                                                  · have := HD.out e; omega
        have hnext : ∀ ty, (Instr.next (.pointer (some ⟨w.heap.size, 0, none⟩)) true ty).run Tryd.prog wr = _ := fun ty => Lib.run_next_ascii_at wr w.heap.size s pos ty KP.out hps hlt
        have KQ := Aside0.mk (Lib.iterAt_heap wr w.heap.size s pos (pos + 1) KP.out)
        have BQ := Aside0.mk (Lib.below_iterAt BP.out (Nat.le_refl _) s (pos + 1))
        rw [hget pos hps] at hnext
        clear hlt hps
        generalize wr.iterAt w.heap.size s (pos + 1) = W1 at hnext KQ BQ
        by_cases hpm : pos = m
        · subst hpm
          go_wp2_with fail
          go_roundg (gk - 1)
          case measure => have := NK.out.2; omega
          case rel => exact ⟨pos + 1, ⟨by omega, NK.out.1⟩, KQ, BQ⟩
        · have HM2 := Aside0.mk hpm
          have m1 : ((pos : Int) = (m : Int)) = False := eq_false (by omega)
          have m2 : (pos = m) = False := eq_false hpm
          have m3 : ((pos : Int) != (m : Int)) = true := bne_iff_ne.mpr (by omega)
          have g1 : decide (((f pos : Nat) : Int) < 48) = false := decide_eq_false (by have := HD.out hpm; omega)
          have g2 : decide (((f pos : Nat) : Int) > 57) = false := decide_eq_false (by have := HD.out hpm; omega)
          have g3 : (f pos < 48) = False := eq_false (by have := HD.out hpm; omega)
          have g4 : (57 < f pos) = False := eq_false (by have := HD.out hpm; omega)
          have g5 : (((f pos : Nat) : Int) < 48) = False := eq_false (by have := HD.out hpm; omega)
          have g6 : (57 < ((f pos : Nat) : Int)) = False := eq_false (by have := HD.out hpm; omega)
          go_wp2_with fail
          go_roundg (gk - 1)
          case measure => have := NK.out.2; omega
          case rel => exact ⟨pos + 1, ⟨by omega, NK.out.1⟩, KQ, BQ⟩
      · have hnext : ∀ ty, (Instr.next (.pointer (some ⟨w.heap.size, 0, none⟩)) true ty).run Tryd.prog wr = _ := fun ty => Lib.run_next_end_at wr w.heap.size s pos ty KP.out (by omega)
        clear KP HP
        go_wp2_with fail
        clear hnext
        go_loopg [9, 61] (n + 1) (fun kq v9 v61 w' => ∃ i : Nat, v61 = .int .i64 (i : Int) ∧ v9 = .int .i64 ((val (b.take i) : Nat) : Int) ∧ Aside0 (i ≤ n ∧ i + kq = n + 1) ∧ Aside0 (Below w.heap.size w w'))
        case atStart => exact ⟨0, rfl, rfl, ⟨by omega, by omega⟩, BP⟩
        case round =>
          clear BP
          obtain ⟨i, rfl, rfl, HI, BI⟩ := hrel
          by_cases hi : i < n
          · have i1 : (i < n) = True := eq_true hi
            have i2 : decide ((i : Int) < (n : Int)) = true := decide_eq_true (by omega)
            have NK := Aside0.mk (show i + 1 + (gk - 1) = n + 1 ∧ 0 < gk by have := HI.out; omega)
            have VS := Aside0.mk (VN.out i (by rw [HNN.out]; exact hi))
            have VV := Aside0.mk (show val (b.take (i + 1)) ≤ u from UE.out ▸ VL.out (i + 1))
            have BN := Aside0.mk (show wrap64 ((i : Int) + 1) = ((i + 1 : Nat) : Int) by have := HN.out; unfold wrap64; omega)
            by_cases him : i = m
            · subst him
              have V2 := Aside0.mk (show val (b.take (i + 1)) = val (b.take i) by rw [VS.out]; unfold stp; rw [if_pos (UInt8.toNat.inj (show (b.getD i 0).toNat = (46 : UInt8).toNat from (HF.out i).trans F46))])
              go_wp2_with fail
              go_roundg (gk - 1)
              case measure => have := NK.out.2; omega
              case rel => exact ⟨i + 1, by rw [BN.out], by rw [V2.out], ⟨by omega, NK.out.1⟩, BI⟩
            · have FI := Aside0.mk (FD.out i hi him)
              have V2 := Aside0.mk (show val (b.take (i + 1)) = 10 * val (b.take i) + (f i - 48) by rw [VS.out, ← HF.out i]; unfold stp; rw [if_neg (ne46_ (HF.out i) FI.out)])
              obtain ⟨d, hd⟩ : ∃ d, f i = d + 48 := ⟨f i - 48, by have := FI.out; omega⟩
              have HDD := Aside0.mk hd
              have VV2 := VV
              generalize val (b.take i) = v at V2 ⊢
              have m1 : ((i : Int) = (m : Int)) = False := eq_false (ni_ him)
              have m2 : (i = m) = False := eq_false him
              have m3 : ((i : Int) == (m : Int)) = false := beq_eq_false_iff_ne.mpr (ni_ him)
              have VB := Aside0.mk (vb_ V2.out VV2.out hd)
              obtain ⟨e6, e7, e8, e9, e4, e5⟩ := w_arith v d u VB.out HU.out (dn_ FI.out hd)
              rw [← hd] at e4 e5
              have e10 := q_ VB.out HU.out (dn_ FI.out hd)
              clear hd
              go_wp2_with fail
              go_roundg (gk - 1)
              case measure => have := NK.out.2; omega
              case rel => exact ⟨i + 1, by rw [BN.out], by rw [vq_ V2.out HDD.out, e9], ⟨by omega, NK.out.1⟩, BI⟩
          · have i1 : (i < n) = False := eq_false hi
            have i2 : decide ((i : Int) < (n : Int)) = false := decide_eq_false (by omega)
            have UV := Aside0.mk (show val (b.take i) = u by rw [List.take_of_length_le (by rw [HNN.out]; omega)]; exact UE.out)
            rw [UV.out]
            go_wp2_with fail
            all_goals go_ret2
            all_goals exact ⟨by first | rfl | (simp [*]; done), by repeat (first | exact BI.out | apply pw_below_drewN | apply below_drew1)⟩
set_option maxHeartbeats 8000000 in
set_option maxRecDepth 100000 in
theorem parse_neg (b : List UInt8) (u : Nat) (G : Dg b u) (hu : u ≤ 9223372036854775808) (hz : 1 ≤ u) (w : World) :
    Calls Tryd.prog 7 #[.string ⟨(45 :: b).toArray⟩] w fun e w' => e = .returned (.tuple #[.int .i64 (-(u : Int)), .int .i64 0]) ∧ Below w.heap.size w w' := by
  have GG := Aside0.mk G
  have VN := Aside0.mk (val_next b); have VL := Aside0.mk (val_le b)
  obtain ⟨n, hn⟩ : ∃ n, b.length = n := ⟨_, rfl⟩
  obtain ⟨f, hf⟩ : ∃ f : Nat → Nat, ∀ i, (b.getD i 0).toNat = f i := ⟨_, fun _ => rfl⟩
  have h4 : 4 ≤ n := hn ▸ G.lo
  have HN := Aside0.mk (show n ≤ 40 from hn ▸ G.hi)
  obtain ⟨m, hm⟩ : ∃ m, n = m + 3 := ⟨n - 3, by omega⟩
  have F46 : f m = 46 := by rw [← hf, show m = b.length - 3 by omega, G.pt]; rfl
  have FD := Aside0.mk (show ∀ i, i < n → i ≠ m → 48 ≤ f i ∧ f i ≤ 57 by intro i h1 h2; rw [← hf]; exact G.dg i (by omega) (by omega))
  have FH := Aside0.mk (show 4 < n → f 0 ≠ 48 by intro h e; have := G.hd (by omega); rw [← hf] at e; exact this (UInt8.toNat.inj e))
  have UE := Aside0.mk G.eq
  have HU := Aside0.mk hu
  obtain ⟨s0, hs0⟩ : ∃ s0 : ByteArray, (⟨(45 :: b).toArray⟩ : ByteArray) = s0 := ⟨_, rfl⟩
  obtain ⟨s, hs⟩ : ∃ s : ByteArray, (⟨b.toArray⟩ : ByteArray) = s := ⟨_, rfl⟩
  have hsz0 : s0.size = n + 1 := by rw [← hs0, ← hn]; exact bt_size (45 :: b)
  have hsz : s.size = n := by rw [← hs, ← hn]; exact bt_size b
  have hget : ∀ i (h : i < s.size), (s[i]'h).toNat = f i := by subst hs; intro i h; rw [bt_get b i h]; exact hf i
  have hget0 : ∀ (h : 0 < s0.size), (s0[0]'h).toNat = 45 := by subst hs0; intro h; rw [bt_get (45 :: b) 0 h]; rfl
  have hext : s0.extract 1 (n + 1) = s := by rw [← hs0, ← hs, ext_]; congr 2; simp; exact List.take_of_length_le (by omega)
  have z00 : (s0.toList = []) = False := eq_false (by rw [ByteArray.toList_eq]; intro e; have e' : s0.data.toList.length = 0 := (by rw [e]; rfl); rw [← Lib.size_eq, hsz0] at e'; omega)
  have z01 : (!s0.toList.isEmpty) = true := by
    cases e : s0.toList with
    | nil => exact absurd e (fun h => by rw [z00] at h; exact h)
    | cons => rfl
  rw [hs0]
  have FN := FD.out 0 (by omega) (by omega)
  have UZ := Aside0.mk hz
  have t1 : (1 ≤ n + 1) = True := eq_true (by omega)
  have t2 : ((1 : Int) ≤ (n : Int) + 1) = True := eq_true (by omega)
  clear hs0 hz
  have e3 : wrap64 ((n : Int) - 3) = (m : Int) := by have := HN.out; unfold wrap64; omega
  have z0 : (s.toList = []) = False := eq_false (by rw [ByteArray.toList_eq]; intro e; have e' : s.data.toList.length = 0 := (by rw [e]; rfl); rw [← Lib.size_eq, hsz] at e'; omega)
  have d1 : decide ((n : Int) < 4) = false := decide_eq_false (by omega)
  have d2 : ((n : Int) < 4) = False := eq_false (by omega)
  have d3 : (n < 4) = False := eq_false (by omega)
  have s1 : (0 : Int) ≤ (m : Int) := by omega
  have s2 : (m < n) = True := eq_true (by omega)
  have s3 : ((m : Int) < (n : Int)) = True := eq_true (by omega)
  have s4 : (0 < n) = True := eq_true (by omega)
  have HM := Aside0.mk hm; have HF := Aside0.mk hf; have HNN := Aside0.mk hn
  clear G hn hf hs hu h4 FN hm
  by_cases hc : 4 < n
  · have c1 : decide ((n : Int) > 4) = true := decide_eq_true (by omega)
    have c2 : ((4 : Int) < (n : Int)) = True := eq_true (by omega)
    have c3 : (4 < n) = True := eq_true hc
    have c4 : decide (4 < n) = true := decide_eq_true hc
    have f48 : ((f 0 : Nat) = 48) = False := eq_false (FH.out hc)
    have f48i : (((f 0 : Nat) : Int) = 48) = False := eq_false (by have := FH.out hc; omega)
    have f48b : (((f 0 : Nat) : Int) == 48) = false := beq_eq_false_iff_ne.mpr (by have := FH.out hc; omega)
    have K0 := Aside0.mk (show (w.iter s 0).heap[w.heap.size]? = some (.stringIter s 0) by have := World.iter_heap w s 0; simpa using this)
    have B0 := Aside0.mk (show Below w.heap.size w (w.iter s 0) from (Below.refl _ w).alloc (Nat.le_refl _) _)
    go_enter Tryd.func7, Tryd.ntmps7
    go_wp2_with fail
    go_loopg [44] (n + 1) (fun kq v44 w' => ∃ pos : Nat, Aside0 (pos ≤ n ∧ pos + kq = n + 1) ∧ Aside0 (w'.heap[w.heap.size]? = some (.stringIter s pos)) ∧ Aside0 (Below w.heap.size w w'))
    case atStart => exact ⟨0, ⟨by omega, by omega⟩, K0, B0⟩
    case round =>
      obtain ⟨pos, HP, KP, BP⟩ := hrel
      clear K0 B0
      by_cases hp : pos < n
      · have p1 : (pos < n) = True := eq_true hp
        have NK := Aside0.mk (show pos + 1 + (gk - 1) = n + 1 ∧ 0 < gk by have := HP.out; omega)
        have hps : pos < s.size := by omega
        have HD := Aside0.mk (show pos ≠ m → 48 ≤ f pos ∧ f pos ≤ 57 from fun h => FD.out pos hp h)
        have hlt : (s[pos]'hps).toNat < 128 := by rw [hget]; by_cases e : pos = m; · rw [e, F46]; omega
                                                  · have := HD.out e; omega
        have hnext : ∀ ty, (Instr.next (.pointer (some ⟨w.heap.size, 0, none⟩)) true ty).run Tryd.prog wr = _ := fun ty => Lib.run_next_ascii_at wr w.heap.size s pos ty KP.out hps hlt
        have KQ := Aside0.mk (Lib.iterAt_heap wr w.heap.size s pos (pos + 1) KP.out)
        have BQ := Aside0.mk (Lib.below_iterAt BP.out (Nat.le_refl _) s (pos + 1))
        rw [hget pos hps] at hnext
        clear hlt hps
        generalize wr.iterAt w.heap.size s (pos + 1) = W1 at hnext KQ BQ
        by_cases hpm : pos = m
        · subst hpm
          go_wp2_with fail
          go_roundg (gk - 1)
          case measure => have := NK.out.2; omega
          case rel => exact ⟨pos + 1, ⟨by omega, NK.out.1⟩, KQ, BQ⟩
        · have HM2 := Aside0.mk hpm
          have m1 : ((pos : Int) = (m : Int)) = False := eq_false (by omega)
          have m2 : (pos = m) = False := eq_false hpm
          have m3 : ((pos : Int) != (m : Int)) = true := bne_iff_ne.mpr (by omega)
          have g1 : decide (((f pos : Nat) : Int) < 48) = false := decide_eq_false (by have := HD.out hpm; omega)
          have g2 : decide (((f pos : Nat) : Int) > 57) = false := decide_eq_false (by have := HD.out hpm; omega)
          have g3 : (f pos < 48) = False := eq_false (by have := HD.out hpm; omega)
          have g4 : (57 < f pos) = False := eq_false (by have := HD.out hpm; omega)
          have g5 : (((f pos : Nat) : Int) < 48) = False := eq_false (by have := HD.out hpm; omega)
          have g6 : (57 < ((f pos : Nat) : Int)) = False := eq_false (by have := HD.out hpm; omega)
          go_wp2_with fail
          go_roundg (gk - 1)
          case measure => have := NK.out.2; omega
          case rel => exact ⟨pos + 1, ⟨by omega, NK.out.1⟩, KQ, BQ⟩
      · have hnext : ∀ ty, (Instr.next (.pointer (some ⟨w.heap.size, 0, none⟩)) true ty).run Tryd.prog wr = _ := fun ty => Lib.run_next_end_at wr w.heap.size s pos ty KP.out (by omega)
        clear KP HP
        go_wp2_with fail
        clear hnext
        go_loopg [9, 61] (n + 1) (fun kq v9 v61 w' => ∃ i : Nat, v61 = .int .i64 (i : Int) ∧ v9 = .int .i64 (-((val (b.take i) : Nat) : Int)) ∧ Aside0 (i ≤ n ∧ i + kq = n + 1) ∧ Aside0 (Below w.heap.size w w'))
        case atStart => exact ⟨0, rfl, rfl, ⟨by omega, by omega⟩, BP⟩
        case round =>
          clear BP
          obtain ⟨i, rfl, rfl, HI, BI⟩ := hrel
          by_cases hi : i < n
          · have i1 : (i < n) = True := eq_true hi
            have i2 : decide ((i : Int) < (n : Int)) = true := decide_eq_true (by omega)
            have NK := Aside0.mk (show i + 1 + (gk - 1) = n + 1 ∧ 0 < gk by have := HI.out; omega)
            have VS := Aside0.mk (VN.out i (by rw [HNN.out]; exact hi))
            have VV := Aside0.mk (show val (b.take (i + 1)) ≤ u from UE.out ▸ VL.out (i + 1))
            have BN := Aside0.mk (show wrap64 ((i : Int) + 1) = ((i + 1 : Nat) : Int) by have := HN.out; unfold wrap64; omega)
            by_cases him : i = m
            · subst him
              have V2 := Aside0.mk (show val (b.take (i + 1)) = val (b.take i) by rw [VS.out]; unfold stp; rw [if_pos (UInt8.toNat.inj (show (b.getD i 0).toNat = (46 : UInt8).toNat from (HF.out i).trans F46))])
              go_wp2_with fail
              go_roundg (gk - 1)
              case measure => have := NK.out.2; omega
              case rel => exact ⟨i + 1, by rw [BN.out], by rw [V2.out], ⟨by omega, NK.out.1⟩, BI⟩
            · have FI := Aside0.mk (FD.out i hi him)
              have V2 := Aside0.mk (show val (b.take (i + 1)) = 10 * val (b.take i) + (f i - 48) by rw [VS.out, ← HF.out i]; unfold stp; rw [if_neg (ne46_ (HF.out i) FI.out)])
              obtain ⟨d, hd⟩ : ∃ d, f i = d + 48 := ⟨f i - 48, by have := FI.out; omega⟩
              have HDD := Aside0.mk hd
              have VV2 := VV
              generalize val (b.take i) = v at V2 ⊢
              have m1 : ((i : Int) = (m : Int)) = False := eq_false (ni_ him)
              have m2 : (i = m) = False := eq_false him
              have m3 : ((i : Int) == (m : Int)) = false := beq_eq_false_iff_ne.mpr (ni_ him)
              have VB := Aside0.mk (vb_ V2.out VV2.out hd)
              obtain ⟨e6, e7, e8, e9, e4, e5⟩ := w_arithn v d u VB.out HU.out (dn_ FI.out hd)
              rw [← hd] at e4 e5
              have e10 := qn_ VB.out HU.out (dn_ FI.out hd)
              clear hd
              go_wp2_with fail
              go_roundg (gk - 1)
              case measure => have := NK.out.2; omega
              case rel => exact ⟨i + 1, by rw [BN.out], by rw [vq_ V2.out HDD.out, e9], ⟨by omega, NK.out.1⟩, BI⟩
          · have i1 : (i < n) = False := eq_false hi
            have i2 : decide ((i : Int) < (n : Int)) = false := decide_eq_false (by omega)
            have UV := Aside0.mk (show val (b.take i) = u by rw [List.take_of_length_le (by rw [HNN.out]; omega)]; exact UE.out)
            rw [UV.out]
            have u1 : ((u : Int) = 0) = False := eq_false (by have := UZ.out; omega)
            have u2 : (u = 0) = False := eq_false (by have := UZ.out; omega)
            have u3 : ((u : Int) == 0) = false := beq_eq_false_iff_ne.mpr (by have := UZ.out; omega)
            have u4 : (-(u : Int) == 0) = false := beq_eq_false_iff_ne.mpr (by have := UZ.out; omega)
            have u5 : (-(u : Int) = 0) = False := eq_false (by have := UZ.out; omega)
            go_wp2_with fail
            all_goals go_ret2
            all_goals exact ⟨by first | rfl | (simp [*]; done), by repeat (first | exact BI.out | apply pw_below_drewN | apply below_drew1)⟩
  · have c1 : decide ((n : Int) > 4) = false := decide_eq_false (by omega)
    have c2 : ((4 : Int) < (n : Int)) = False := eq_false (by omega)
    have c3 : (4 < n) = False := eq_false hc
    have c4 : decide (4 < n) = false := decide_eq_false hc
    have HC := Aside0.mk hc
    clear hc
    have K0 := Aside0.mk (show (w.iter s 0).heap[w.heap.size]? = some (.stringIter s 0) by have := World.iter_heap w s 0; simpa using this)
    have B0 := Aside0.mk (show Below w.heap.size w (w.iter s 0) from (Below.refl _ w).alloc (Nat.le_refl _) _)
    go_enter Tryd.func7, Tryd.ntmps7
    go_wp2_with fail
    go_loopg [44] (n + 1) (fun kq v44 w' => ∃ pos : Nat, Aside0 (pos ≤ n ∧ pos + kq = n + 1) ∧ Aside0 (w'.heap[w.heap.size]? = some (.stringIter s pos)) ∧ Aside0 (Below w.heap.size w w'))
    case atStart => exact ⟨0, ⟨by omega, by omega⟩, K0, B0⟩
    case round =>
      obtain ⟨pos, HP, KP, BP⟩ := hrel
      clear K0 B0
      by_cases hp : pos < n
      · have p1 : (pos < n) = True := eq_true hp
        have NK := Aside0.mk (show pos + 1 + (gk - 1) = n + 1 ∧ 0 < gk by have := HP.out; omega)
        have hps : pos < s.size := by omega
        have HD := Aside0.mk (show pos ≠ m → 48 ≤ f pos ∧ f pos ≤ 57 from fun h => FD.out pos hp h)
        have hlt : (s[pos]'hps).toNat < 128 := by rw [hget]; by_cases e : pos = m; · rw [e, F46]; omega
                                                  · have := HD.out e; omega
        have hnext : ∀ ty, (Instr.next (.pointer (some ⟨w.heap.size, 0, none⟩)) true ty).run Tryd.prog wr = _ := fun ty => Lib.run_next_ascii_at wr w.heap.size s pos ty KP.out hps hlt
        have KQ := Aside0.mk (Lib.iterAt_heap wr w.heap.size s pos (pos + 1) KP.out)
        have BQ := Aside0.mk (Lib.below_iterAt BP.out (Nat.le_refl _) s (pos + 1))
        rw [hget pos hps] at hnext
        clear hlt hps
        generalize wr.iterAt w.heap.size s (pos + 1) = W1 at hnext KQ BQ
        by_cases hpm : pos = m
        · subst hpm
          go_wp2_with fail
          go_roundg (gk - 1)
          case measure => have := NK.out.2; omega
          case rel => exact ⟨pos + 1, ⟨by omega, NK.out.1⟩, KQ, BQ⟩
        · have HM2 := Aside0.mk hpm
          have m1 : ((pos : Int) = (m : Int)) = False := eq_false (by omega)
          have m2 : (pos = m) = False := eq_false hpm
          have m3 : ((pos : Int) != (m : Int)) = true := bne_iff_ne.mpr (by omega)
          have g1 : decide (((f pos : Nat) : Int) < 48) = false := decide_eq_false (by have := HD.out hpm; omega)
          have g2 : decide (((f pos : Nat) : Int) > 57) = false := decide_eq_false (by have := HD.out hpm; omega)
          have g3 : (f pos < 48) = False := eq_false (by have := HD.out hpm; omega)
          have g4 : (57 < f pos) = False := eq_false (by have := HD.out hpm; omega)
          have g5 : (((f pos : Nat) : Int) < 48) = False := eq_false (by have := HD.out hpm; omega)
          have g6 : (57 < ((f pos : Nat) : Int)) = False := eq_false (by have := HD.out hpm; omega)
          go_wp2_with fail
          go_roundg (gk - 1)
          case measure => have := NK.out.2; omega
          case rel => exact ⟨pos + 1, ⟨by omega, NK.out.1⟩, KQ, BQ⟩
      · have hnext : ∀ ty, (Instr.next (.pointer (some ⟨w.heap.size, 0, none⟩)) true ty).run Tryd.prog wr = _ := fun ty => Lib.run_next_end_at wr w.heap.size s pos ty KP.out (by omega)
        clear KP HP
        go_wp2_with fail
        clear hnext
        go_loopg [9, 61] (n + 1) (fun kq v9 v61 w' => ∃ i : Nat, v61 = .int .i64 (i : Int) ∧ v9 = .int .i64 (-((val (b.take i) : Nat) : Int)) ∧ Aside0 (i ≤ n ∧ i + kq = n + 1) ∧ Aside0 (Below w.heap.size w w'))
        case atStart => exact ⟨0, rfl, rfl, ⟨by omega, by omega⟩, BP⟩
        case round =>
          clear BP
          obtain ⟨i, rfl, rfl, HI, BI⟩ := hrel
          by_cases hi : i < n
          · have i1 : (i < n) = True := eq_true hi
            have i2 : decide ((i : Int) < (n : Int)) = true := decide_eq_true (by omega)
            have NK := Aside0.mk (show i + 1 + (gk - 1) = n + 1 ∧ 0 < gk by have := HI.out; omega)
            have VS := Aside0.mk (VN.out i (by rw [HNN.out]; exact hi))
            have VV := Aside0.mk (show val (b.take (i + 1)) ≤ u from UE.out ▸ VL.out (i + 1))
            have BN := Aside0.mk (show wrap64 ((i : Int) + 1) = ((i + 1 : Nat) : Int) by have := HN.out; unfold wrap64; omega)
            by_cases him : i = m
            · subst him
              have V2 := Aside0.mk (show val (b.take (i + 1)) = val (b.take i) by rw [VS.out]; unfold stp; rw [if_pos (UInt8.toNat.inj (show (b.getD i 0).toNat = (46 : UInt8).toNat from (HF.out i).trans F46))])
              go_wp2_with fail
              go_roundg (gk - 1)
              case measure => have := NK.out.2; omega
              case rel => exact ⟨i + 1, by rw [BN.out], by rw [V2.out], ⟨by omega, NK.out.1⟩, BI⟩
            · have FI := Aside0.mk (FD.out i hi him)
              have V2 := Aside0.mk (show val (b.take (i + 1)) = 10 * val (b.take i) + (f i - 48) by rw [VS.out, ← HF.out i]; unfold stp; rw [if_neg (ne46_ (HF.out i) FI.out)])
              obtain ⟨d, hd⟩ : ∃ d, f i = d + 48 := ⟨f i - 48, by have := FI.out; omega⟩
              have HDD := Aside0.mk hd
              have VV2 := VV
              generalize val (b.take i) = v at V2 ⊢
              have m1 : ((i : Int) = (m : Int)) = False := eq_false (ni_ him)
              have m2 : (i = m) = False := eq_false him
              have m3 : ((i : Int) == (m : Int)) = false := beq_eq_false_iff_ne.mpr (ni_ him)
              have VB := Aside0.mk (vb_ V2.out VV2.out hd)
              obtain ⟨e6, e7, e8, e9, e4, e5⟩ := w_arithn v d u VB.out HU.out (dn_ FI.out hd)
              rw [← hd] at e4 e5
              have e10 := qn_ VB.out HU.out (dn_ FI.out hd)
              clear hd
              go_wp2_with fail
              go_roundg (gk - 1)
              case measure => have := NK.out.2; omega
              case rel => exact ⟨i + 1, by rw [BN.out], by rw [vq_ V2.out HDD.out, e9], ⟨by omega, NK.out.1⟩, BI⟩
          · have i1 : (i < n) = False := eq_false hi
            have i2 : decide ((i : Int) < (n : Int)) = false := decide_eq_false (by omega)
            have UV := Aside0.mk (show val (b.take i) = u by rw [List.take_of_length_le (by rw [HNN.out]; omega)]; exact UE.out)
            rw [UV.out]
            have u1 : ((u : Int) = 0) = False := eq_false (by have := UZ.out; omega)
            have u2 : (u = 0) = False := eq_false (by have := UZ.out; omega)
            have u3 : ((u : Int) == 0) = false := beq_eq_false_iff_ne.mpr (by have := UZ.out; omega)
            have u4 : (-(u : Int) == 0) = false := beq_eq_false_iff_ne.mpr (by have := UZ.out; omega)
            have u5 : (-(u : Int) = 0) = False := eq_false (by have := UZ.out; omega)
            go_wp2_with fail
            all_goals go_ret2
            all_goals exact ⟨by first | rfl | (simp [*]; done), by repeat (first | exact BI.out | apply pw_below_drewN | apply below_drew1)⟩
end Go.Proofs.YtbnnjpibdlfhpaaDoor.M
