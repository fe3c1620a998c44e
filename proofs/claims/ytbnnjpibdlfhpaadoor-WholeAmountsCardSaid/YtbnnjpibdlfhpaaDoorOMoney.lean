/-
  money.Text: an amount as whole units and hundredths.
-/
import Derived.Test.YtbnnjpibdlfhpaaDoorMx1
import Derived.Test.YtbnnjpibdlfhpaaDoorOStrc
namespace Go.Proofs.YtbnnjpibdlfhpaaDoor.M
open Go.RowKit Go.Proofs.YtbnnjpibdlfhpaaDoorW.PrintWords Go.Proofs.YtbnnjpibdlfhpaaDoorW.PrintLast Go.Proofs.YtbnnjpibdlfhpaaDoorW.PrintMore
set_option linter.unusedVariables false
set_option linter.unusedSimpArgs false
/-- at least three digits -/
def pad (l : List UInt8) : List UInt8 := List.replicate (3 - l.length) 48 ++ l
/-- the text of an amount without its sign -/
def body (l : List UInt8) : List UInt8 := (pad l).take ((pad l).length - 2) ++ 46 :: (pad l).drop ((pad l).length - 2)
def txt (a : Int) : List UInt8 := (if a < 0 then [45] else []) ++ body (Lib.decDigits a.natAbs)
theorem pad_long {l : List UInt8} (h : 3 ≤ l.length) : pad l = l := by unfold pad; rw [show 3 - l.length = 0 by omega]; rfl
theorem pad_more {l : List UInt8} (h : l.length < 3) : pad (48 :: l) = pad l := by
  unfold pad
  rw [show 3 - l.length = (3 - (48 :: l).length) + 1 by rw [List.length_cons]; omega, List.replicate_succ', List.append_assoc]
  rfl
theorem ext_ (x : List UInt8) (i j : Nat) : (⟨x.toArray⟩ : ByteArray).extract i j = ⟨((x.drop i).take (j - i)).toArray⟩ := by
  apply ByteArray.ext
  simp [ByteArray.data_extract]
theorem sl_take (x : List UInt8) (n : Nat) (h : n ≤ x.length) (W : World) : (Instr.sliceAt 9 (.string ⟨x.toArray⟩) none (some (.int .i64 (n : Int))) none).run Tryd.prog W = .ok (.string ⟨(x.take n).toArray⟩) W := by
  have hs : (⟨x.toArray⟩ : ByteArray).size = x.length := by simp [ByteArray.size]
  rw [run_sliceAt_string W 9 _ _ _ _ Tryd.underlying9, run_slice_string_h W 9 _ Tryd.underlying9 .i64 (n : Int) (by omega) (by rw [hs]; omega), ext_]
  simp
theorem sl_drop (x : List UInt8) (n : Nat) (h : n ≤ x.length) (W : World) : (Instr.sliceAt 9 (.string ⟨x.toArray⟩) (some (.int .i64 (n : Int))) none none).run Tryd.prog W = .ok (.string ⟨(x.drop n).toArray⟩) W := by
  have hs : (⟨x.toArray⟩ : ByteArray).size = x.length := by simp [ByteArray.size]
  rw [run_sliceAt_string W 9 _ _ _ _ Tryd.underlying9, run_slice_string_l W 9 _ Tryd.underlying9 .i64 (n : Int) (by omega) (by rw [hs]; omega), ext_, hs, List.take_of_length_le (by simp)]
  simp
theorem cat_ (x y : List UInt8) (h : x.length + y.length ≤ 9223372036854775807) (W : World) : (binOp .add 9 (.string ⟨x.toArray⟩) (.string ⟨y.toArray⟩)).run Tryd.prog W = .ok (.string ⟨(x ++ y).toArray⟩) W := by
  have h1 : ¬ 9223372036854775807 < x.length + y.length := by omega
  have hs : ∀ z : List UInt8, (⟨z.toArray⟩ : ByteArray).size = z.length := fun z => by simp [ByteArray.size]
  have e : (⟨x.toArray⟩ : ByteArray) ++ ⟨y.toArray⟩ = ⟨(x ++ y).toArray⟩ := by apply ByteArray.ext; simp
  go_simp
theorem dig_pos (u : Nat) : 1 ≤ (Lib.decDigits u).length := by
  rw [Lib.decDigits_length]
  by_cases h10 : u < 10
  · rw [Lib.nDigits_small h10]; omega
  · rw [Lib.nDigits_big h10]; omega
theorem dig_le (u : Nat) (h : u < 18446744073709551616) : (Lib.decDigits u).length ≤ 20 := by
  rw [Lib.decDigits_length]
  by_cases h1 : 1 ≤ u
  · have := Lib.numDigits_eq u h1 h; split at this <;> omega
  · rw [Lib.nDigits_small (by omega)]; omega
set_option maxHeartbeats 8000000 in
set_option maxRecDepth 100000 in
theorem text_calls (a : Int) (h0 : -9223372036854775808 ≤ a) (h1 : a ≤ 9223372036854775807) (w : World) (htab : Lib.TabIs Tryd.prog w "internal/strconv.uint64pow10" .u64 Lib.pow10Tab) :
    Calls Tryd.prog 6 #[.int .i64 a] w fun e w' => e = .returned (.string ⟨(txt a).toArray⟩) ∧ Below w.heap.size w w' := by
  have HA := Aside0.mk (⟨h0, h1⟩ : -9223372036854775808 ≤ a ∧ a ≤ 9223372036854775807)
  have hu : a.natAbs < 18446744073709551616 := by omega
  have hpos := dig_pos a.natAbs
  have hle := dig_le a.natAbs hu
  obtain ⟨ds, hds⟩ : ∃ ds, Lib.decDigits a.natAbs = ds := ⟨_, rfl⟩
  have HF := fun W (h : Lib.TabIs Tryd.prog W "internal/strconv.uint64pow10" .u64 Lib.pow10Tab) => fmt_calls a.natAbs hu W h
  by_cases hn : a < 0
  · have n1 : decide (a < 0) = true := decide_eq_true hn
    have e1 : IntKind.u64.wrap (-(IntKind.u64.wrap a)) = (a.natAbs : Int) := by rw [IntKind.wrap_u64, IntKind.wrap_u64]; omega
    go_enter Tryd.func6, Tryd.ntmps6
    go_wp2_with fail
    refine (HF _ htab).mono ?_; rintro e W1 ⟨rfl, hb⟩
    rw [hds]
    rw [hds] at hpos hle
    have BW := Aside0.mk hb
    clear HF hb
    go_wp2_with fail
    go_loopg [5] 3 (fun kq v5 w' => ∃ (x : List UInt8), v5 = .string ⟨x.toArray⟩ ∧ Aside0 (pad x = pad ds ∧ 1 ≤ x.length ∧ x.length ≤ 20 ∧ 4 ≤ x.length + kq) ∧ Aside0 (Below w.heap.size w w'))
    case atStart => exact ⟨ds, rfl, ⟨rfl, by omega, by omega, by omega⟩, BW⟩
    case round =>
      obtain ⟨x, rfl, HX, BX⟩ := hrel
      have hsz : (⟨x.toArray⟩ : ByteArray).size = x.length := by simp [ByteArray.size]
      by_cases hx : x.length < 3
      · have d1 : decide ((x.length : Int) < 3) = true := decide_eq_true (by omega)
        have d2 : ((x.length : Int) < 3) = True := eq_true (by omega)
        have d3 : (x.length < 3) = True := eq_true hx
        have d4 : decide (x.length < 3) = true := decide_eq_true hx
        have NK := Aside0.mk (show 4 ≤ x.length + 1 + (gk - 1) ∧ 0 < gk by have := HX.out.2.2.2; omega)
        go_wp2_with fail
        go_roundg (gk - 1)
        case measure => have := NK.out.2; omega
        case rel => exact ⟨48 :: x, rfl, ⟨by rw [pad_more hx]; exact HX.out.1, by simp, by rw [List.length_cons]; omega, by rw [List.length_cons]; exact NK.out.1⟩, BX⟩
      · have d1 : decide ((x.length : Int) < 3) = false := decide_eq_false (by omega)
        have d2 : ((x.length : Int) < 3) = False := eq_false (by omega)
        have d3 : (x.length < 3) = False := eq_false hx
        have d4 : decide (x.length < 3) = false := decide_eq_false hx
        have EX := Aside0.mk (show x = pad ds by rw [← pad_long (by omega : 3 ≤ x.length)]; exact HX.out.1)
        have b2 : wrap64 ((x.length : Int) - 2) = (x.length : Int) - 2 := by have := HX.out; unfold wrap64; omega
        have bn : (x.length : Int) - 2 = ((x.length - 2 : Nat) : Int) := by omega
        have SL1 := Aside0.mk (fun W => sl_take x (x.length - 2) (by omega) W)
        have SL2 := Aside0.mk (fun W => sl_drop x (x.length - 2) (by omega) W)
        rw [← bn] at SL1 SL2
        have hX := HX.out.2.2.1
        have q1 : (9223372036854775807 < 1 + (x.length - 2)) = False := eq_false (by omega)
        have q2 : (9223372036854775807 < 1 + (x.length - 2) + 1) = False := eq_false (by omega)
        have q3 : (9223372036854775807 < x.length - 2) = False := eq_false (by omega)
        have q4 : (9223372036854775807 < x.length - 2 + 1) = False := eq_false (by omega)
        have q5 : (9223372036854775807 < 1 + (x.length - 2) + 1 + (x.length - (x.length - 2))) = False := eq_false (by omega)
        have q6 : (9223372036854775807 < x.length - 2 + 1 + (x.length - (x.length - 2))) = False := eq_false (by omega)
        clear hX
        clear bn
        go_wp2_with fail
        refine start_ (n := 15) (S := fun w' => (Instr.sliceAt 9 (.string ⟨x.toArray⟩) none (some (.int .i64 ((x.length : Int) - 2))) none).run Tryd.prog w' = .ok (.string ⟨(x.take (x.length - 2)).toArray⟩) w' ∧ (Instr.sliceAt 9 (.string ⟨x.toArray⟩) (some (.int .i64 ((x.length : Int) - 2))) none none).run Tryd.prog w' = .ok (.string ⟨(x.drop (x.length - 2)).toArray⟩) w') (ds := []) #[false, false, false, false, false, false, false, false, false, false, false, false, false, false, false] (by kernel_rfl) rfl rfl ⟨(SL1.out _), (SL2.out _)⟩ (fun hHeld => ?_)
        refine pure_ (i := 0) (N := some 19) (v := ?_) (a' := ?_) #[true, false, false, false, false, false, false, false, false, false, false, false, false, false, false] rfl rfl (by kernel_rfl) (fun _ _ _ h => h) (Or.inl ⟨by rfl, ?_⟩) ?_ ?_
        rotate_left
        · intro w'
          go_simp
          with_reducible rfl
        rotate_left
        · simp only [Act.put, List.setIfInBounds_toArray, List.set_cons_zero, List.set_cons_succ, i64_w, i32_w]
          rfl
        refine pure_ (i := 1) (N := some 20) (v := ?_) (a' := ?_) #[true, true, false, false, false, false, false, false, false, false, false, false, false, false, false] rfl rfl (by kernel_rfl) (fun _ _ _ h => h) (Or.inl ⟨by rfl, ?_⟩) ?_ ?_
        rotate_left
        · intro w'
          go_simp
          with_reducible rfl
        rotate_left
        · simp only [Act.put, List.setIfInBounds_toArray, List.set_cons_zero, List.set_cons_succ, i64_w, i32_w]
          rfl
        refine pure_ (i := 2) (N := some 21) (v := ?_) (a' := ?_) #[true, true, true, false, false, false, false, false, false, false, false, false, false, false, false] rfl rfl (by kernel_rfl) (fun _ _ _ h => h) (Or.inl ⟨by rfl, ?_⟩) ?_ ?_
        rotate_left
        · intro w'
          go_simp
          with_reducible rfl
        rotate_left
        · simp only [Act.put, List.setIfInBounds_toArray, List.set_cons_zero, List.set_cons_succ, i64_w, i32_w]
          rfl
        refine pure_ (i := 3) (N := some 22) (v := ?_) (a' := ?_) #[true, true, true, true, false, false, false, false, false, false, false, false, false, false, false] rfl rfl (by kernel_rfl) (fun _ _ _ h => h) (Or.inl ⟨by rfl, ?_⟩) ?_ ?_
        rotate_left
        · intro w'
          go_simp
          with_reducible rfl
        rotate_left
        · simp only [Act.put, List.setIfInBounds_toArray, List.set_cons_zero, List.set_cons_succ, i64_w, i32_w]
          rfl
        refine pure_ (i := 4) (N := some 23) (v := ?_) (a' := ?_) #[true, true, true, true, true, false, false, false, false, false, false, false, false, false, false] rfl rfl (by kernel_rfl) (fun _ _ _ h => h) (Or.inl ⟨by rfl, ?_⟩) ?_ ?_
        rotate_left
        · intro w'
          go_simp
          with_reducible rfl
        rotate_left
        · simp only [Act.put, List.setIfInBounds_toArray, List.set_cons_zero, List.set_cons_succ, i64_w, i32_w]
          rfl
        refine pure_ (i := 8) (N := some 27) (v := ?_) (a' := ?_) #[true, true, true, true, true, false, false, false, true, false, false, false, false, false, false] rfl rfl (by kernel_rfl) (fun _ _ _ h => h) (Or.inl ⟨by rfl, ?_⟩) ?_ ?_
        rotate_left
        · intro w'
          go_simp
          with_reducible rfl
        rotate_left
        · simp only [Act.put, List.setIfInBounds_toArray, List.set_cons_zero, List.set_cons_succ, i64_w, i32_w]
          rfl
        refine pure_ (i := 9) (N := some 28) (v := ?_) (a' := ?_) #[true, true, true, true, true, false, false, false, true, true, false, false, false, false, false] rfl rfl (by kernel_rfl) (fun _ _ _ h => h) (Or.inl ⟨by rfl, ?_⟩) ?_ ?_
        rotate_left
        · intro w'
          go_simp
          with_reducible rfl
        rotate_left
        · simp only [Act.put, List.setIfInBounds_toArray, List.set_cons_zero, List.set_cons_succ, i64_w, i32_w]
          rfl
        refine pure_ (i := 10) (N := some 29) (v := ?_) (a' := ?_) #[true, true, true, true, true, false, false, false, true, true, true, false, false, false, false] rfl rfl (by kernel_rfl) (fun _ _ _ h => h) (Or.inl ⟨by rfl, ?_⟩) ?_ ?_
        rotate_left
        · intro w'
          go_simp
          with_reducible rfl
        rotate_left
        · simp only [Act.put, List.setIfInBounds_toArray, List.set_cons_zero, List.set_cons_succ, i64_w, i32_w]
          rfl
        refine pure_ (i := 11) (N := some 30) (v := ?_) (a' := ?_) #[true, true, true, true, true, false, false, false, true, true, true, true, false, false, false] rfl rfl (by kernel_rfl) (fun _ _ _ h => h) (Or.inl ⟨by rfl, ?_⟩) ?_ ?_
        rotate_left
        · intro w'
          go_simp
          with_reducible rfl
        rotate_left
        · simp only [Act.put, List.setIfInBounds_toArray, List.set_cons_zero, List.set_cons_succ, i64_w, i32_w]
          rfl
        refine take_ (i := 5) (N := some 24) (v := ?_) (a' := ?_) #[true, true, true, true, true, true, false, false, true, true, true, true, false, false, false] rfl rfl (by kernel_rfl) (fun _ _ _ h => h) (Or.inl ⟨by rfl, ?_⟩) hHeld ?_ ?_
        rotate_left
        · rintro w' ⟨s0, s1⟩
          go_simp
          with_reducible rfl
        rotate_left
        · simp only [Act.put, List.setIfInBounds_toArray, List.set_cons_zero, List.set_cons_succ, i64_w, i32_w]
          rfl
        refine pure_ (i := 6) (N := some 25) (v := ?_) (a' := ?_) #[true, true, true, true, true, true, true, false, true, true, true, true, false, false, false] rfl rfl (by kernel_rfl) (fun _ _ _ h => h) (Or.inl ⟨by rfl, ?_⟩) ?_ ?_
        rotate_left
        · intro w'
          go_simp
          with_reducible rfl
        rotate_left
        · simp only [Act.put, List.setIfInBounds_toArray, List.set_cons_zero, List.set_cons_succ, i64_w, i32_w]
          rfl
        refine pure_ (i := 7) (N := some 26) (v := ?_) (a' := ?_) #[true, true, true, true, true, true, true, true, true, true, true, true, false, false, false] rfl rfl (by kernel_rfl) (fun _ _ _ h => h) (Or.inl ⟨by rfl, ?_⟩) ?_ ?_
        rotate_left
        · intro w'
          go_simp
          with_reducible rfl
        rotate_left
        · simp only [Act.put, List.setIfInBounds_toArray, List.set_cons_zero, List.set_cons_succ, i64_w, i32_w]
          rfl
        refine take_ (i := 12) (N := some 31) (v := ?_) (a' := ?_) #[true, true, true, true, true, true, true, true, true, true, true, true, true, false, false] rfl rfl (by kernel_rfl) (fun _ _ _ h => h) (Or.inl ⟨by rfl, ?_⟩) hHeld ?_ ?_
        rotate_left
        · rintro w' ⟨s0, s1⟩
          go_simp
          with_reducible rfl
        rotate_left
        · simp only [Act.put, List.setIfInBounds_toArray, List.set_cons_zero, List.set_cons_succ, i64_w, i32_w]
          rfl
        refine pure_ (i := 13) (N := some 32) (v := ?_) (a' := ?_) #[true, true, true, true, true, true, true, true, true, true, true, true, true, true, false] rfl rfl (by kernel_rfl) (fun _ _ _ h => h) (Or.inl ⟨by rfl, ?_⟩) ?_ ?_
        rotate_left
        · intro w'
          go_simp
          with_reducible rfl
        rotate_left
        · simp only [Act.put, List.setIfInBounds_toArray, List.set_cons_zero, List.set_cons_succ, i64_w, i32_w]
          rfl
        refine pure_ (i := 14) (N := some 2) (v := ?_) (a' := ?_) #[true, true, true, true, true, true, true, true, true, true, true, true, true, true, true] rfl rfl (by kernel_rfl) (fun _ _ _ h => h) (Or.inl ⟨by rfl, ?_⟩) ?_ ?_
        rotate_left
        · intro w'
          go_simp
          with_reducible rfl
        rotate_left
        · simp only [Act.put, List.setIfInBounds_toArray, List.set_cons_zero, List.set_cons_succ, i64_w, i32_w]
          rfl
        refine done_ (by kernel_rfl) ?_
        clear q1 q2 q3 q4 q5 q6
        go_wp2_with fail
        go_ret
        refine ⟨?_, by repeat (first | exact BX.out | apply pw_below_drewN | apply below_drew1)⟩
        refine congrArg Ending.returned (congrArg Value.string ?_)
        unfold txt body
        rw [hds, if_pos hn, ← EX.out]
        apply ByteArray.ext
        simp
  · have n1 : decide (a < 0) = false := decide_eq_false hn
    have e1 : IntKind.u64.wrap a = (a.natAbs : Int) := by rw [IntKind.wrap_u64]; omega
    go_enter Tryd.func6, Tryd.ntmps6
    go_wp2_with fail
    refine (HF _ htab).mono ?_; rintro e W1 ⟨rfl, hb⟩
    rw [hds]
    rw [hds] at hpos hle
    have BW := Aside0.mk hb
    clear HF hb
    go_wp2_with fail
    go_loopg [5] 3 (fun kq v5 w' => ∃ (x : List UInt8), v5 = .string ⟨x.toArray⟩ ∧ Aside0 (pad x = pad ds ∧ 1 ≤ x.length ∧ x.length ≤ 20 ∧ 4 ≤ x.length + kq) ∧ Aside0 (Below w.heap.size w w'))
    case atStart => exact ⟨ds, rfl, ⟨rfl, by omega, by omega, by omega⟩, BW⟩
    case round =>
      obtain ⟨x, rfl, HX, BX⟩ := hrel
      have hsz : (⟨x.toArray⟩ : ByteArray).size = x.length := by simp [ByteArray.size]
      by_cases hx : x.length < 3
      · have d1 : decide ((x.length : Int) < 3) = true := decide_eq_true (by omega)
        have d2 : ((x.length : Int) < 3) = True := eq_true (by omega)
        have d3 : (x.length < 3) = True := eq_true hx
        have d4 : decide (x.length < 3) = true := decide_eq_true hx
        have NK := Aside0.mk (show 4 ≤ x.length + 1 + (gk - 1) ∧ 0 < gk by have := HX.out.2.2.2; omega)
        go_wp2_with fail
        go_roundg (gk - 1)
        case measure => have := NK.out.2; omega
        case rel => exact ⟨48 :: x, rfl, ⟨by rw [pad_more hx]; exact HX.out.1, by simp, by rw [List.length_cons]; omega, by rw [List.length_cons]; exact NK.out.1⟩, BX⟩
      · have d1 : decide ((x.length : Int) < 3) = false := decide_eq_false (by omega)
        have d2 : ((x.length : Int) < 3) = False := eq_false (by omega)
        have d3 : (x.length < 3) = False := eq_false hx
        have d4 : decide (x.length < 3) = false := decide_eq_false hx
        have EX := Aside0.mk (show x = pad ds by rw [← pad_long (by omega : 3 ≤ x.length)]; exact HX.out.1)
        have b2 : wrap64 ((x.length : Int) - 2) = (x.length : Int) - 2 := by have := HX.out; unfold wrap64; omega
        have bn : (x.length : Int) - 2 = ((x.length - 2 : Nat) : Int) := by omega
        have SL1 := Aside0.mk (fun W => sl_take x (x.length - 2) (by omega) W)
        have SL2 := Aside0.mk (fun W => sl_drop x (x.length - 2) (by omega) W)
        rw [← bn] at SL1 SL2
        have hX := HX.out.2.2.1
        have q1 : (9223372036854775807 < 1 + (x.length - 2)) = False := eq_false (by omega)
        have q2 : (9223372036854775807 < 1 + (x.length - 2) + 1) = False := eq_false (by omega)
        have q3 : (9223372036854775807 < x.length - 2) = False := eq_false (by omega)
        have q4 : (9223372036854775807 < x.length - 2 + 1) = False := eq_false (by omega)
        have q5 : (9223372036854775807 < 1 + (x.length - 2) + 1 + (x.length - (x.length - 2))) = False := eq_false (by omega)
        have q6 : (9223372036854775807 < x.length - 2 + 1 + (x.length - (x.length - 2))) = False := eq_false (by omega)
        clear hX
        clear bn
        go_wp2_with fail
        refine start_ (n := 15) (S := fun w' => (Instr.sliceAt 9 (.string ⟨x.toArray⟩) none (some (.int .i64 ((x.length : Int) - 2))) none).run Tryd.prog w' = .ok (.string ⟨(x.take (x.length - 2)).toArray⟩) w' ∧ (Instr.sliceAt 9 (.string ⟨x.toArray⟩) (some (.int .i64 ((x.length : Int) - 2))) none none).run Tryd.prog w' = .ok (.string ⟨(x.drop (x.length - 2)).toArray⟩) w') (ds := []) #[false, false, false, false, false, false, false, false, false, false, false, false, false, false, false] (by kernel_rfl) rfl rfl ⟨(SL1.out _), (SL2.out _)⟩ (fun hHeld => ?_)
        refine pure_ (i := 0) (N := some 19) (v := ?_) (a' := ?_) #[true, false, false, false, false, false, false, false, false, false, false, false, false, false, false] rfl rfl (by kernel_rfl) (fun _ _ _ h => h) (Or.inl ⟨by rfl, ?_⟩) ?_ ?_
        rotate_left
        · intro w'
          go_simp
          with_reducible rfl
        rotate_left
        · simp only [Act.put, List.setIfInBounds_toArray, List.set_cons_zero, List.set_cons_succ, i64_w, i32_w]
          rfl
        refine pure_ (i := 1) (N := some 20) (v := ?_) (a' := ?_) #[true, true, false, false, false, false, false, false, false, false, false, false, false, false, false] rfl rfl (by kernel_rfl) (fun _ _ _ h => h) (Or.inl ⟨by rfl, ?_⟩) ?_ ?_
        rotate_left
        · intro w'
          go_simp
          with_reducible rfl
        rotate_left
        · simp only [Act.put, List.setIfInBounds_toArray, List.set_cons_zero, List.set_cons_succ, i64_w, i32_w]
          rfl
        refine pure_ (i := 2) (N := some 21) (v := ?_) (a' := ?_) #[true, true, true, false, false, false, false, false, false, false, false, false, false, false, false] rfl rfl (by kernel_rfl) (fun _ _ _ h => h) (Or.inl ⟨by rfl, ?_⟩) ?_ ?_
        rotate_left
        · intro w'
          go_simp
          with_reducible rfl
        rotate_left
        · simp only [Act.put, List.setIfInBounds_toArray, List.set_cons_zero, List.set_cons_succ, i64_w, i32_w]
          rfl
        refine pure_ (i := 3) (N := some 22) (v := ?_) (a' := ?_) #[true, true, true, true, false, false, false, false, false, false, false, false, false, false, false] rfl rfl (by kernel_rfl) (fun _ _ _ h => h) (Or.inl ⟨by rfl, ?_⟩) ?_ ?_
        rotate_left
        · intro w'
          go_simp
          with_reducible rfl
        rotate_left
        · simp only [Act.put, List.setIfInBounds_toArray, List.set_cons_zero, List.set_cons_succ, i64_w, i32_w]
          rfl
        refine pure_ (i := 4) (N := some 23) (v := ?_) (a' := ?_) #[true, true, true, true, true, false, false, false, false, false, false, false, false, false, false] rfl rfl (by kernel_rfl) (fun _ _ _ h => h) (Or.inl ⟨by rfl, ?_⟩) ?_ ?_
        rotate_left
        · intro w'
          go_simp
          with_reducible rfl
        rotate_left
        · simp only [Act.put, List.setIfInBounds_toArray, List.set_cons_zero, List.set_cons_succ, i64_w, i32_w]
          rfl
        refine pure_ (i := 8) (N := some 27) (v := ?_) (a' := ?_) #[true, true, true, true, true, false, false, false, true, false, false, false, false, false, false] rfl rfl (by kernel_rfl) (fun _ _ _ h => h) (Or.inl ⟨by rfl, ?_⟩) ?_ ?_
        rotate_left
        · intro w'
          go_simp
          with_reducible rfl
        rotate_left
        · simp only [Act.put, List.setIfInBounds_toArray, List.set_cons_zero, List.set_cons_succ, i64_w, i32_w]
          rfl
        refine pure_ (i := 9) (N := some 28) (v := ?_) (a' := ?_) #[true, true, true, true, true, false, false, false, true, true, false, false, false, false, false] rfl rfl (by kernel_rfl) (fun _ _ _ h => h) (Or.inl ⟨by rfl, ?_⟩) ?_ ?_
        rotate_left
        · intro w'
          go_simp
          with_reducible rfl
        rotate_left
        · simp only [Act.put, List.setIfInBounds_toArray, List.set_cons_zero, List.set_cons_succ, i64_w, i32_w]
          rfl
        refine pure_ (i := 10) (N := some 29) (v := ?_) (a' := ?_) #[true, true, true, true, true, false, false, false, true, true, true, false, false, false, false] rfl rfl (by kernel_rfl) (fun _ _ _ h => h) (Or.inl ⟨by rfl, ?_⟩) ?_ ?_
        rotate_left
        · intro w'
          go_simp
          with_reducible rfl
        rotate_left
        · simp only [Act.put, List.setIfInBounds_toArray, List.set_cons_zero, List.set_cons_succ, i64_w, i32_w]
          rfl
        refine pure_ (i := 11) (N := some 30) (v := ?_) (a' := ?_) #[true, true, true, true, true, false, false, false, true, true, true, true, false, false, false] rfl rfl (by kernel_rfl) (fun _ _ _ h => h) (Or.inl ⟨by rfl, ?_⟩) ?_ ?_
        rotate_left
        · intro w'
          go_simp
          with_reducible rfl
        rotate_left
        · simp only [Act.put, List.setIfInBounds_toArray, List.set_cons_zero, List.set_cons_succ, i64_w, i32_w]
          rfl
        refine take_ (i := 5) (N := some 24) (v := ?_) (a' := ?_) #[true, true, true, true, true, true, false, false, true, true, true, true, false, false, false] rfl rfl (by kernel_rfl) (fun _ _ _ h => h) (Or.inl ⟨by rfl, ?_⟩) hHeld ?_ ?_
        rotate_left
        · rintro w' ⟨s0, s1⟩
          go_simp
          with_reducible rfl
        rotate_left
        · simp only [Act.put, List.setIfInBounds_toArray, List.set_cons_zero, List.set_cons_succ, i64_w, i32_w]
          rfl
        refine pure_ (i := 6) (N := some 25) (v := ?_) (a' := ?_) #[true, true, true, true, true, true, true, false, true, true, true, true, false, false, false] rfl rfl (by kernel_rfl) (fun _ _ _ h => h) (Or.inl ⟨by rfl, ?_⟩) ?_ ?_
        rotate_left
        · intro w'
          go_simp
          with_reducible rfl
        rotate_left
        · simp only [Act.put, List.setIfInBounds_toArray, List.set_cons_zero, List.set_cons_succ, i64_w, i32_w]
          rfl
        refine pure_ (i := 7) (N := some 26) (v := ?_) (a' := ?_) #[true, true, true, true, true, true, true, true, true, true, true, true, false, false, false] rfl rfl (by kernel_rfl) (fun _ _ _ h => h) (Or.inl ⟨by rfl, ?_⟩) ?_ ?_
        rotate_left
        · intro w'
          go_simp
          with_reducible rfl
        rotate_left
        · simp only [Act.put, List.setIfInBounds_toArray, List.set_cons_zero, List.set_cons_succ, i64_w, i32_w]
          rfl
        refine take_ (i := 12) (N := some 31) (v := ?_) (a' := ?_) #[true, true, true, true, true, true, true, true, true, true, true, true, true, false, false] rfl rfl (by kernel_rfl) (fun _ _ _ h => h) (Or.inl ⟨by rfl, ?_⟩) hHeld ?_ ?_
        rotate_left
        · rintro w' ⟨s0, s1⟩
          go_simp
          with_reducible rfl
        rotate_left
        · simp only [Act.put, List.setIfInBounds_toArray, List.set_cons_zero, List.set_cons_succ, i64_w, i32_w]
          rfl
        refine pure_ (i := 13) (N := some 32) (v := ?_) (a' := ?_) #[true, true, true, true, true, true, true, true, true, true, true, true, true, true, false] rfl rfl (by kernel_rfl) (fun _ _ _ h => h) (Or.inl ⟨by rfl, ?_⟩) ?_ ?_
        rotate_left
        · intro w'
          go_simp
          with_reducible rfl
        rotate_left
        · simp only [Act.put, List.setIfInBounds_toArray, List.set_cons_zero, List.set_cons_succ, i64_w, i32_w]
          rfl
        refine pure_ (i := 14) (N := some 2) (v := ?_) (a' := ?_) #[true, true, true, true, true, true, true, true, true, true, true, true, true, true, true] rfl rfl (by kernel_rfl) (fun _ _ _ h => h) (Or.inl ⟨by rfl, ?_⟩) ?_ ?_
        rotate_left
        · intro w'
          go_simp
          with_reducible rfl
        rotate_left
        · simp only [Act.put, List.setIfInBounds_toArray, List.set_cons_zero, List.set_cons_succ, i64_w, i32_w]
          rfl
        refine done_ (by kernel_rfl) ?_
        clear q1 q2 q3 q4 q5 q6
        go_wp2_with fail
        go_ret
        refine ⟨?_, by repeat (first | exact BX.out | apply pw_below_drewN | apply below_drew1)⟩
        refine congrArg Ending.returned (congrArg Value.string ?_)
        unfold txt body
        rw [hds, if_neg (show ¬ a < 0 by omega), ← EX.out]
        apply ByteArray.ext
        simp
end Go.Proofs.YtbnnjpibdlfhpaaDoor.M
