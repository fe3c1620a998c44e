/-
  CrcApart, walked by hand: of two texts that are unlike in four bytes in a row at most the checks are unlike.
-/
import Derived.Test.YtipkgplkeebhkaaPApart
import Derived.Test.YtipkgplkeebhkaaRowCrcApart
import Derived.Laws.IdiomCopy
namespace Go.Proofs.Ytipkgplkeebhkaa.Pure
open Go.RowKit Go.Proofs.Ytipkgplkeebhkaa.M Go.Proofs.YtipkgplkeebhkaaW.PrintWords Go.Proofs.YtipkgplkeebhkaaW.PrintLast Go.Proofs.YtipkgplkeebhkaaW.PrintMore
set_option linter.unusedVariables false
set_option linter.unusedSimpArgs false
theorem below0_set {w W : World} (h : Below 0 w W) (p : Addr) (u : Value) : Below 0 w (W.setCell p u) := ⟨h.os, h.tape, h.output, by simpa [World.setCell] using h.size, fun k hk => absurd hk (Nat.not_lt_zero k)⟩
theorem below0 {B : Nat} {w W : World} (h : Below B w W) : Below 0 w W := ⟨h.os, h.tape, h.output, h.size, fun k hk => absurd hk (Nat.not_lt_zero k)⟩
/-- from a part to the whole -/
theorem below_kept {w0 w w' : World} {P : Nat → Prop} (h : Below w0.heap.size w0 w) (hb : Below 0 w w') (hk : Kept w w' P) (hP : ∀ k, P k → w0.heap.size ≤ k) : Below w0.heap.size w0 w' :=
  ⟨hb.os.trans h.os, hb.tape.trans h.tape, hb.output.trans h.output, Nat.le_trans h.size hb.size, fun k hk2 => (hk.2 k (Nat.lt_of_lt_of_le hk2 h.size) (fun q => absurd (hP k q) (Nat.not_le.mpr hk2))).trans (h.block k hk2)⟩
theorem R_setCells {b base n cap : Nat} {ok : Nat → Prop} : ∀ (ys : List Int) (o : Nat) (w : World) (xs : List Int), Kd.R (Kd.int .u8) 5 w base ok (.slice (some ⟨b, 0, none⟩) n cap) xs → o + ys.length ≤ xs.length →
    Kd.R (Kd.int .u8) 5 (w.setCells b o (ys.map (Value.int .u8))) base ok (.slice (some ⟨b, 0, none⟩) n cap) (xs.take o ++ ys ++ xs.drop (o + ys.length)) := by
  intro ys
  induction ys with
  | nil => intro o w xs h _; simpa [World.setCells, List.take_append_drop] using h
  | cons y ys ih =>
    intro o w xs h hl
    simp only [List.length_cons] at hl
    have h1 := Kd.R_putn h (o : Int) y
    rw [Int.toNat_natCast] at h1
    have h2 := ih (o + 1) _ _ h1 (by rw [List.length_set]; omega)
    have e : (xs.set o y).take (o + 1) ++ ys ++ (xs.set o y).drop (o + 1 + ys.length) = xs.take o ++ (y :: ys) ++ xs.drop (o + (y :: ys).length) := by
      rw [List.drop_set_of_lt (by omega), List.take_set, List.take_succ_eq_append_getElem (by omega), List.set_append_right _ _ (by rw [List.length_take]; omega)]
      have e1 : o - (xs.take o).length = 0 := by rw [List.length_take]; omega
      rw [e1, List.length_cons, show o + 1 + ys.length = o + (ys.length + 1) by omega]
      simp only [List.set_cons_zero, List.append_assoc, List.singleton_append]
    rw [e] at h2
    exact h2
theorem kept_setCells (b : Nat) : ∀ (vs : List Value) (o : Nat) (w : World), Kept w (w.setCells b o vs) (fun k => k = b) := by
  intro vs
  induction vs with
  | nil => intro o w; exact Kept.refl w _
  | cons v vs ih => intro o w; exact ((Kept.refl w (fun k => k = b)).setCell (p := ⟨b, o, none⟩) (.inl rfl) v).then_ (ih (o + 1) _) (fun k hk => .inl hk)
theorem below0_setCells (b : Nat) : ∀ (vs : List Value) (o : Nat) (w : World), Below 0 w (w.setCells b o vs) := by
  intro vs
  induction vs with
  | nil => intro o w; exact Below.refl 0 w
  | cons v vs ih => intro o w; exact Below.trans (below0_set (Below.refl 0 w) ⟨b, o, none⟩ v) (ih (o + 1) _)
theorem below_of0 {w w1 w' : World} (h : Below w.heap.size w w1) (h0 : Below 0 w1 w') {b : Nat} (hk : Kept w1 w' (fun k => k = b)) (hb : w.heap.size ≤ b) : Below w.heap.size w w' :=
  below_kept h h0 hk (fun k hk => by rw [hk]; exact hb)
set_option maxHeartbeats 4000000 in
set_option maxRecDepth 100000 in
theorem CrcApart_hand (A0 : Option Addr) (c0 : Nat) (l0 : List Int) (at_ f0 f1 f2 f3 : Int) (w : World)
    (hr0 : Kd.C (Kd.int .u8) w A0 l0.length l0) (hc0 : l0.length ≤ c0)
    (g0 : l0.length * 1 ≤ 140737488351232 ∧ ∀ x ∈ l0, (Lit.int .u8 x).wf = true) (g1 : (Lit.int .i64 at_).wf = true) (g2 : G34 ⟨f0, f1, f2, f3⟩) :
    Calls Try.prog 6 #[.slice A0 l0.length c0, .int .i64 at_, .agg #[.int .u8 f0, .int .u8 f1, .int .u8 f2, .int .u8 f3]] w fun e w' => e = .returned (.bool true) ∧ Below w.heap.size w w' := by
  have hB : ∀ x ∈ l0, Crc.Byte x := fun x hx => Crc.wf_byte (g0.2 x hx)
  have hF : ∀ x ∈ [f0, f1, f2, f3], Crc.Byte x := fun x hx => by
    simp only [List.mem_cons, List.not_mem_nil, or_false] at hx
    rcases hx with rfl | rfl | rfl | rfl
    · exact Crc.wf_byte g2.1
    · exact Crc.wf_byte g2.2.1
    · exact Crc.wf_byte g2.2.2.1
    · exact Crc.wf_byte g2.2.2.2
  have hR : -9223372036854775808 ≤ at_ ∧ at_ ≤ 9223372036854775807 := by simp [Lit.wf, IntKind.min, IntKind.max, IntKind.signed, IntKind.bits] at g1; omega
  have HB := Aside0.mk (Below.refl w.heap.size w)
  have HR0 := Aside0.mk hr0; have HC0 := Aside0.mk hc0; clear hr0 hc0
  obtain ⟨kn, hkn⟩ := Apart.known_ev.rounds
  have HKN := Aside0.mk hkn
  clear hkn g1 g2
  by_cases h1 : l0.length > 500
  · have c0_ : decide (500 < (l0.length : Int)) = true := decide_eq_true (by omega)
    have c1_ : decide ((l0.length : Int) > 500) = true := decide_eq_true (by omega)
    clear h1 g0 hB hF hR
    go_enter Try.func6, Try.ntmps6
--B1
    go_wp2_with (first | ((with_reducible refine gate_dst (N := 5) rfl ?_); refine box_event ?hg (N := 5) ?hd (cs := #[.int .u8 f0, .int .u8 f1, .int .u8 f2, .int .u8 f3]) (t := 34) ?hr ?_; (case hd => rfl); (case hg => rfl); (case hr => first | (go_simp; done) | (go_simp; rfl)); intro ga hg w1 hbox hb; have B1 := Aside0.mk (below_step HB.out hb); have A1 := Aside0.mk hbox; have GA := Aside0.mk (show w.heap.size ≤ ga from by rw [hg]; exact Nat.le_refl _); clear hb hg hbox))
    refine (contralaw03_known.calls kn true _ HKN.out).mono ?_; rintro e w2 ⟨rfl, hb⟩; have B2 := Aside0.mk (below_step B1.out hb); have A2 := Aside0.mk (blk_below A1.out hb); clear hb
    go_wp2
    go_ret
    exact ⟨rfl, B2.out⟩
  have c0_ : decide (500 < (l0.length : Int)) = false := decide_eq_false (by omega)
  have c1_ : decide ((l0.length : Int) > 500) = false := decide_eq_false (by omega)
  have r1 : wrap64 ((l0.length : Int) - 4) = (l0.length : Int) - 4 := by unfold wrap64; omega
  by_cases h2 : at_ < 0
  · have c2_ : decide (at_ < 0) = true := decide_eq_true h2
    clear h1 h2 g0 hB hF hR
    go_enter Try.func6, Try.ntmps6
--B1
    go_wp2_with (first | ((with_reducible refine gate_dst (N := 5) rfl ?_); refine box_event ?hg (N := 5) ?hd (cs := #[.int .u8 f0, .int .u8 f1, .int .u8 f2, .int .u8 f3]) (t := 34) ?hr ?_; (case hd => rfl); (case hg => rfl); (case hr => first | (go_simp; done) | (go_simp; rfl)); intro ga hg w1 hbox hb; have B1 := Aside0.mk (below_step HB.out hb); have A1 := Aside0.mk hbox; have GA := Aside0.mk (show w.heap.size ≤ ga from by rw [hg]; exact Nat.le_refl _); clear hb hg hbox))
    refine (contralaw03_known.calls kn true _ HKN.out).mono ?_; rintro e w2 ⟨rfl, hb⟩; have B2 := Aside0.mk (below_step B1.out hb); have A2 := Aside0.mk (blk_below A1.out hb); clear hb
    go_wp2
    go_ret
    exact ⟨rfl, B2.out⟩
  have c2_ : decide (at_ < 0) = false := decide_eq_false h2
  by_cases h3 : at_ > (l0.length : Int) - 4
  · have c3_ : decide (at_ > (l0.length : Int) - 4) = true := decide_eq_true h3
    have c4_ : decide ((l0.length : Int) - 4 < at_) = true := decide_eq_true h3
    clear h1 h2 h3 g0 hB hF hR
    go_enter Try.func6, Try.ntmps6
--B1
    go_wp2_with (first | ((with_reducible refine gate_dst (N := 5) rfl ?_); refine box_event ?hg (N := 5) ?hd (cs := #[.int .u8 f0, .int .u8 f1, .int .u8 f2, .int .u8 f3]) (t := 34) ?hr ?_; (case hd => rfl); (case hg => rfl); (case hr => first | (go_simp; done) | (go_simp; rfl)); intro ga hg w1 hbox hb; have B1 := Aside0.mk (below_step HB.out hb); have A1 := Aside0.mk hbox; have GA := Aside0.mk (show w.heap.size ≤ ga from by rw [hg]; exact Nat.le_refl _); clear hb hg hbox))
    refine (contralaw03_known.calls kn true _ HKN.out).mono ?_; rintro e w2 ⟨rfl, hb⟩; have B2 := Aside0.mk (below_step B1.out hb); have A2 := Aside0.mk (blk_below A1.out hb); clear hb
    go_wp2
    go_ret
    exact ⟨rfl, B2.out⟩
  have c3_ : decide (at_ > (l0.length : Int) - 4) = false := decide_eq_false h3
  have c4_ : decide ((l0.length : Int) - 4 < at_) = false := decide_eq_false h3
  obtain ⟨a, rfl⟩ : ∃ a : Nat, at_ = (a : Int) := ⟨at_.toNat, by omega⟩
  obtain ⟨o, ho⟩ : ∃ o, o = l0.take a ++ [f0, f1, f2, f3] ++ l0.drop (a + 4) := ⟨_, rfl⟩
  have hol : o.length = l0.length := by rw [ho]; simp only [List.length_append, List.length_take, List.length_drop, List.length_cons, List.length_nil]; omega
  have hob : ∀ x ∈ o, Crc.Byte x := fun x hx => by
    rw [ho] at hx
    rcases List.mem_append.mp hx with hx | hx
    · rcases List.mem_append.mp hx with hx | hx
      · exact hB x (List.mem_of_mem_take hx)
      · exact hF x hx
    · exact hB x (List.mem_of_mem_drop hx)
  obtain ⟨q, r, s, hq1, hq2, hq3, hq4⟩ := Apart.same_checks hB hob (by omega) (a := a) ho (by omega)
  obtain ⟨k1, hk1⟩ := hq1.rounds
  obtain ⟨k2, hk2⟩ := hq2.rounds
  have HK1 := Aside0.mk hk1; have HK2 := Aside0.mk hk2; have HOL := Aside0.mk hol; have HO := Aside0.mk ho
  have HLA := Aside0.mk (show a + 4 ≤ l0.length ∧ l0.length ≤ 500 by omega)
  have n1 := eq_true (show (a : Int) ≤ (l0.length : Int) by omega)
  have n2 := eq_true (show a ≤ l0.length by omega)
  clear h1 h2 h3 g0 hB hF hR hol hob ho hk1 hk2 hq1 hq2
  go_enter Try.func6, Try.ntmps6
--B1
  go_wp2_with (first | ((with_reducible refine gate_dst (N := 5) rfl ?_); refine box_event ?hg (N := 5) ?hd (cs := #[.int .u8 f0, .int .u8 f1, .int .u8 f2, .int .u8 f3]) (t := 34) ?hr ?_; (case hd => rfl); (case hg => rfl); (case hr => first | (go_simp; done) | (go_simp; rfl)); intro ga hg w1 hbox hb; have B1 := Aside0.mk (below_step HB.out hb); have A1 := Aside0.mk hbox; have GA := Aside0.mk (show w.heap.size ≤ ga from by rw [hg]; exact Nat.le_refl _); clear hb hg hbox))
  refine (contralaw03_known.calls kn true _ HKN.out).mono ?_; rintro e w2 ⟨rfl, hb⟩; have B2 := Aside0.mk (below_step B1.out hb); have A2 := Aside0.mk (blk_below A1.out hb); clear hb
  go_wp2_with (first | ((with_reducible refine gate_dst (N := 24) rfl ?_); refine Kd.R_lit (Kd.int .u8) _ 5 ?hg (N := 24) ?hd (xs := ([] : List Int)) (inner := []) (ok := fun _ => True) (okp := fun _ => True) ?hr ?hp (fun _ hk => hk) trivial (Below.refl _ _) (Nat.le_refl _) (by simp) ?_; (case hd => rfl); (case hg => rfl); (case hr => first | (go_simp; done) | (go_simp; rfl)); (case hp => exact (Reps.none _ _)); intro v1 w3 ho10 hb hg_ hnew_; clear hg_ hnew_; have O3 := Aside0.mk ho10; have B3 := Aside0.mk (below_step B2.out hb); have BX3 := Aside0.mk hb; have A3 := Aside0.mk (blk_below A2.out hb); clear hb ho10) | ((with_reducible refine gate_builtin (b := .append) (xs := #[.tmp 24, .tmp 25]) rfl ?_); at_builtin; refine Kd.R_append_rows (Kd.int .u8) (w0 := w2) w2.heap.size rfl (.tmp 24) (.tmp 25) 22 5 (.int .u8 0) 1 rfl Try.underlying22 info5 rfl (by decide) (by omega) v1 [] l0 _ _ _ (fun _ => True) (fun _ => False) rfl rfl ?aO ?aR (fun _ _ h => h) (fun _ h => h.elim) ?aF ?aB ?aS ?aL ?_; (case aR => exact Kd.C_below HR0.out B3.out); (case aB => exact (BX3.out)); (case aF => exact (fun _ _ => trivial)); (case aO => exact O3.out); (case aS => exact (BX3.out).size); (case aL => have := HLA.out; simp only [List.length_nil]; omega); intro v2 w4 ho hb hg hat; rw [List.nil_append] at ho; have O4 := Aside0.mk ho; have B4 := Aside0.mk (below_step B2.out hb); have A4 := Aside0.mk (blk_below A2.out hb); clear ho hb hg hat))
  obtain ⟨gb, c2, rfl, hgb, hgl, _, -⟩ := Kd.R_form O4.out (by have := HLA.out; omega)
  have GB := Aside0.mk hgb; have CL := Aside0.mk (Kd.R_reads' O4.out).2.1
  clear hgb hgl
  have n3 := eq_false (show ¬ c2 = a by have := HLA.out; have := CL.out; omega)
  have n4 := eq_true (show l0.length ≤ c2 by have := CL.out; omega)
  have O4d := Aside0.mk (Kd.R_drew O4.out)
  have A4d := Aside0.mk (blk_drew A4.out)
  obtain ⟨i0, hi0, _, hsz0, _⟩ := info_parts info5
  have hsz1 : (Try.prog.info? 5).map (·.size) = some 1 := by rw [hi0]; exact congrArg some hsz0
  have hcell : ∀ j, j < 4 → (w4.drew.cell? ⟨gb, a + j, none⟩).isSome = true ∧ w4.drew.frozen? ⟨gb, a + j, none⟩ = false := fun j hj => by
    have := Kd.R_celln 0 O4d.out ((a + j : Nat) : Int) (by omega) (by have := HLA.out; omega)
    rw [Int.toNat_natCast] at this
    exact ⟨by rw [this.1]; rfl, this.2⟩
  have hcopy : (Builtin.copy_ #[22, 22] 3 #[.slice (some ⟨gb, a, none⟩) (l0.length - a) (c2 - a), .slice (some ⟨ga, 0, none⟩) 4 4]).run Try.prog w4.drew = .ok (goInt 4) (w4.drew.setCells gb a [.int .u8 f0, .int .u8 f1, .int .u8 f2, .int .u8 f3]) :=
    run_copy_cells (P := Try.prog) w4.drew 22 22 3 5 gb a (l0.length - a) (c2 - a) ⟨ga, 0, none⟩ 4 4 [.int .u8 f0, .int .u8 f1, .int .u8 f2, .int .u8 f3] Try.underlying22 hsz1 (by have := HLA.out; show 4 = min 4 (l0.length - a); omega)
      (fun j v hv => by
        have hj : j < 4 := (List.getElem?_eq_some_iff.mp hv).1
        have := blk_cell A4d.out j
        rw [show (⟨ga, 0, none⟩ : Addr).add j = ⟨ga, j, none⟩ from by simp only [add_plain, Nat.zero_add]]
        rw [this]
        simpa using hv)
      (fun j hj => (hcell j hj).1) (fun j hj => (hcell j hj).2) (by intro v hv; simp only [List.mem_cons, List.not_mem_nil, or_false] at hv; rcases hv with rfl | rfl | rfl | rfl <;> rfl)
  clear hi0 hsz0 hsz1 hcell
--REGA
  refine start_ (n := 5) (S := fun w' => True) (ds := []) #[false, false, false, false, false] (by kernel_rfl) rfl rfl trivial (fun hHeld => ?_)
  refine pure_ (i := 0) (N := some 27) (v := ?_) (a' := ?_) #[true, false, false, false, false] rfl rfl (by kernel_rfl) (fun _ _ _ h => h) (Or.inl ⟨by rfl, ?_⟩) ?_ ?_
  rotate_left
  · intro w'
    go_simp
    with_reducible rfl
  rotate_left
  · simp only [Act.put, List.setIfInBounds_toArray, List.set_cons_zero, List.set_cons_succ, i64_w, i32_w]
    rfl
  refine pure_ (i := 1) (N := some 28) (v := ?_) (a' := ?_) #[true, true, false, false, false] rfl rfl (by kernel_rfl) (fun _ _ _ h => h) (Or.inl ⟨by rfl, ?_⟩) ?_ ?_
  rotate_left
  · intro w'
    go_simp
    with_reducible rfl
  rotate_left
  · simp only [Act.put, List.setIfInBounds_toArray, List.set_cons_zero, List.set_cons_succ, i64_w, i32_w]
    rfl
  refine pure_ (i := 2) (N := some 29) (v := ?_) (a' := ?_) #[true, true, true, false, false] rfl rfl (by kernel_rfl) (fun _ _ _ h => h) (Or.inl ⟨by rfl, ?_⟩) ?_ ?_
  rotate_left
  · intro w'
    go_simp
    with_reducible rfl
  rotate_left
  · simp only [Act.put, List.setIfInBounds_toArray, List.set_cons_zero, List.set_cons_succ, i64_w, i32_w]
    rfl
  refine pure_ (i := 3) (N := some 30) (v := ?_) (a' := ?_) #[true, true, true, true, false] rfl rfl (by kernel_rfl) (fun _ _ _ h => h) (Or.inl ⟨by rfl, ?_⟩) ?_ ?_
  rotate_left
  · intro w'
    go_simp
    with_reducible rfl
  rotate_left
  · simp only [Act.put, List.setIfInBounds_toArray, List.set_cons_zero, List.set_cons_succ, i64_w, i32_w]
    rfl
  refine one_ (i := 4) (N := some 31) #[true, true, true, true, true] rfl rfl (by kernel_rfl) (by decide) (fun K hK => ?_)
  refine value_ (w1 := ?_) (v := ?_) (by rfl) rfl ?_ ?_
  rotate_left 2
  · go_simp
    constructor
    · rfl
    · rfl
  clear hcopy
  refine hK.out _ _ trivial (fun hHeld => ?_)
  clear hK K
  refine norm_ (a' := ?_) ?_ ?_
  rotate_left
  · show Act.put _ (some 31) _ = _
    simp only [Act.put, List.setIfInBounds_toArray, List.set_cons_zero, List.set_cons_succ, i64_w, i32_w]
    rfl
  refine done_ (by kernel_rfl) ?_
--ENDA
  have O5 := Aside0.mk (R_setCells [f0, f1, f2, f3] a w4.drew _ O4d.out (by have := HLA.out; simp only [List.length_cons, List.length_nil]; omega))
  have B5 := Aside0.mk (below_of0 (show Below w.heap.size w w4.drew from B4.out.trans ((below_drew (Below.refl w4.heap.size w4)).mono B4.out.size)) (below0_setCells gb [.int .u8 f0, .int .u8 f1, .int .u8 f2, .int .u8 f3] a w4.drew) (kept_setCells gb _ a w4.drew) (Nat.le_trans B2.out.size GB.out))
  have o5 := O5.out
  rw [show l0.take a ++ [f0, f1, f2, f3] ++ l0.drop (a + [f0, f1, f2, f3].length) = o from HO.out.symm] at o5
  have F0 := Aside0.mk (show Kd.C (Kd.int .u8) (w4.drew.setCells gb a [.int .u8 f0, .int .u8 f1, .int .u8 f2, .int .u8 f3]) (some ⟨gb, 0, none⟩) l0.length o from by have := (Kd.R_reads' (by rw [← HOL.out] at o5; exact o5)).2.2; rwa [HOL.out] at this)
  have F1 := Aside0.mk (Kd.C_below HR0.out B5.out)
  clear o5 O5
  generalize w4.drew.setCells gb a [.int .u8 f0, .int .u8 f1, .int .u8 f2, .int .u8 f3] = w5 at B5 F0 F1 ⊢
  have hof := fun (W : World) (hC : Kd.C (Kd.int .u8) W (some ⟨gb, 0, none⟩) l0.length o) => crc_Of.calls k1 (some ⟨gb, 0, none⟩) c2 o r W (by rw [HOL.out]; exact hC) (by rw [HOL.out]; exact CL.out) HK1.out
  rw [HOL.out] at hof
  have HOF := Aside0.mk hof
  clear hof
  go_wp2_with fail
--REGB
  refine start_ (n := 12) (S := fun w' => (convert 22 9 (.slice (some ⟨gb, 0, none⟩) l0.length c2)).run Try.prog w' = .ok (.string (strOfNums o)) w' ∧ (convert 22 9 (.slice A0 l0.length c0)).run Try.prog w' = .ok (.string (strOfNums l0)) w') (ds := []) #[false, false, false, false, false, false, false, false, false, false, false, false] (by kernel_rfl) rfl rfl ⟨(Kd.C_string (P := Try.prog) Try.underlying22 Try.underlying5 Try.underlying9 (Kd.C_below F0.out (below_drew (Below.refl _ _)))), (Kd.C_string (P := Try.prog) Try.underlying22 Try.underlying5 Try.underlying9 (Kd.C_below F1.out (below_drew (Below.refl _ _))))⟩ (fun hHeld => ?_)
  refine pure_ (i := 0) (N := some 32) (v := ?_) (a' := ?_) #[true, false, false, false, false, false, false, false, false, false, false, false] rfl rfl (by kernel_rfl) (fun _ _ _ h => h) (Or.inl ⟨by rfl, ?_⟩) ?_ ?_
  rotate_left
  · intro w'
    go_simp
    with_reducible rfl
  rotate_left
  · simp only [Act.put, List.setIfInBounds_toArray, List.set_cons_zero, List.set_cons_succ, i64_w, i32_w]
    rfl
  refine pure_ (i := 2) (N := some 34) (v := ?_) (a' := ?_) #[true, false, true, false, false, false, false, false, false, false, false, false] rfl rfl (by kernel_rfl) (fun _ _ _ h => h) (Or.inl ⟨by rfl, ?_⟩) ?_ ?_
  rotate_left
  · intro w'
    go_simp
    with_reducible rfl
  rotate_left
  · simp only [Act.put, List.setIfInBounds_toArray, List.set_cons_zero, List.set_cons_succ, i64_w, i32_w]
    rfl
  refine pure_ (i := 5) (N := some 37) (v := ?_) (a' := ?_) #[true, false, true, false, false, true, false, false, false, false, false, false] rfl rfl (by kernel_rfl) (fun _ _ _ h => h) (Or.inl ⟨by rfl, ?_⟩) ?_ ?_
  rotate_left
  · intro w'
    go_simp
    with_reducible rfl
  rotate_left
  · simp only [Act.put, List.setIfInBounds_toArray, List.set_cons_zero, List.set_cons_succ, i64_w, i32_w]
    rfl
  refine pure_ (i := 7) (N := some 39) (v := ?_) (a' := ?_) #[true, false, true, false, false, true, false, true, false, false, false, false] rfl rfl (by kernel_rfl) (fun _ _ _ h => h) (Or.inl ⟨by rfl, ?_⟩) ?_ ?_
  rotate_left
  · intro w'
    go_simp
    with_reducible rfl
  rotate_left
  · simp only [Act.put, List.setIfInBounds_toArray, List.set_cons_zero, List.set_cons_succ, i64_w, i32_w]
    rfl
  refine take_ (i := 6) (N := some 38) (v := ?_) (a' := ?_) #[true, false, true, false, false, true, true, true, false, false, false, false] rfl rfl (by kernel_rfl) (fun _ _ _ h => h) (Or.inl ⟨by rfl, ?_⟩) hHeld ?_ ?_
  rotate_left
  · rintro w' ⟨s0, s1⟩
    go_simp
    with_reducible rfl
  rotate_left
  · simp only [Act.put, List.setIfInBounds_toArray, List.set_cons_zero, List.set_cons_succ, i64_w, i32_w]
    rfl
  refine take_ (i := 8) (N := some 40) (v := ?_) (a' := ?_) #[true, false, true, false, false, true, true, true, true, false, false, false] rfl rfl (by kernel_rfl) (fun _ _ _ h => h) (Or.inl ⟨by rfl, ?_⟩) hHeld ?_ ?_
  rotate_left
  · rintro w' ⟨s0, s1⟩
    go_simp
    with_reducible rfl
  rotate_left
  · simp only [Act.put, List.setIfInBounds_toArray, List.set_cons_zero, List.set_cons_succ, i64_w, i32_w]
    rfl
  refine pure_ (i := 9) (N := some 41) (v := ?_) (a' := ?_) #[true, false, true, false, false, true, true, true, true, true, false, false] rfl rfl (by kernel_rfl) (fun _ _ _ h => h) (Or.inl ⟨by rfl, ?_⟩) ?_ ?_
  rotate_left
  · intro w'
    go_simp
    with_reducible rfl
  rotate_left
  · simp only [Act.put, List.setIfInBounds_toArray, List.set_cons_zero, List.set_cons_succ, i64_w, i32_w]
    rfl
  refine one_ (i := 1) (N := some 33) #[true, true, true, false, false, true, true, true, true, true, false, false] rfl rfl (by kernel_rfl) (by decide) (fun K hK => ?_)
  refine goes_ Try.func14 (by kernel_rfl) rfl #[.slice (some ⟨gb, 0, none⟩) l0.length c2] (by rfl) rfl rfl (by simp only [List.map_toArray, List.map_cons, List.map_nil]; rfl) ?_
  with_reducible refine (HOF.out _ (Kd.C_below F0.out (below_drew (Below.refl _ _)))).mono ?_
  rintro e w6 ⟨rfl, hb⟩
  refine ⟨_, rfl, ?_⟩
  have B6 := Aside0.mk (show Below w5.heap.size w5 w6 from (below_drew (Below.refl _ _)).trans hb)
  clear hb
  refine hK.out _ _ ⟨(Kd.C_string (P := Try.prog) Try.underlying22 Try.underlying5 Try.underlying9 (Kd.C_below F0.out (B6.out))), (Kd.C_string (P := Try.prog) Try.underlying22 Try.underlying5 Try.underlying9 (Kd.C_below F1.out (B6.out)))⟩ (fun hHeld => ?_)
  clear hK K
  refine norm_ (a' := ?_) ?_ ?_
  rotate_left
  · show Act.put _ (some 33) _ = _
    simp only [Act.put, List.setIfInBounds_toArray, List.set_cons_zero, List.set_cons_succ, i64_w, i32_w]
    rfl
  refine one_ (i := 3) (N := some 35) #[true, true, true, true, false, true, true, true, true, true, false, false] rfl rfl (by kernel_rfl) (by decide) (fun K hK => ?_)
  refine goes_ Try.func14 (by kernel_rfl) rfl #[.slice A0 l0.length c0] (by rfl) rfl rfl (by simp only [List.map_toArray, List.map_cons, List.map_nil]; rfl) ?_
  with_reducible refine (crc_Of.calls k2 A0 c0 l0 s w6 (Kd.C_below F1.out B6.out) HC0.out HK2.out).mono ?_
  rintro e w7 ⟨rfl, hb⟩
  refine ⟨_, rfl, ?_⟩
  have B7 := Aside0.mk (show Below w5.heap.size w5 w7 from B6.out.trans (hb.mono B6.out.size))
  clear hb
  refine hK.out _ _ ⟨(Kd.C_string (P := Try.prog) Try.underlying22 Try.underlying5 Try.underlying9 (Kd.C_below F0.out (B7.out))), (Kd.C_string (P := Try.prog) Try.underlying22 Try.underlying5 Try.underlying9 (Kd.C_below F1.out (B7.out)))⟩ (fun hHeld => ?_)
  clear hK K
  refine norm_ (a' := ?_) ?_ ?_
  rotate_left
  · show Act.put _ (some 35) _ = _
    simp only [Act.put, List.setIfInBounds_toArray, List.set_cons_zero, List.set_cons_succ, i64_w, i32_w]
    rfl
  refine pure_ (i := 4) (N := some 36) (v := ?_) (a' := ?_) #[true, true, true, true, true, true, true, true, true, true, false, false] rfl rfl (by kernel_rfl) (fun _ _ _ h => h) (Or.inl ⟨by rfl, ?_⟩) ?_ ?_
  rotate_left
  · intro w'
    go_simp
    with_reducible rfl
  rotate_left
  · simp only [Act.put, List.setIfInBounds_toArray, List.set_cons_zero, List.set_cons_succ, i64_w, i32_w]
    rfl
  refine pure_ (i := 10) (N := some 42) (v := ?_) (a' := ?_) #[true, true, true, true, true, true, true, true, true, true, true, false] rfl rfl (by kernel_rfl) (fun _ _ _ h => h) (Or.inl ⟨by rfl, ?_⟩) ?_ ?_
  rotate_left
  · intro w'
    go_simp
    with_reducible rfl
  rotate_left
  · simp only [Act.put, List.setIfInBounds_toArray, List.set_cons_zero, List.set_cons_succ, i64_w, i32_w]
    rfl
  refine pure_ (i := 11) (N := some 6) (v := ?_) (a' := ?_) #[true, true, true, true, true, true, true, true, true, true, true, true] rfl rfl (by kernel_rfl) (fun _ _ _ h => h) (Or.inl ⟨by rfl, ?_⟩) ?_ ?_
  rotate_left
  · intro w'
    go_simp
    with_reducible rfl
  rotate_left
  · simp only [Act.put, List.setIfInBounds_toArray, List.set_cons_zero, List.set_cons_succ, i64_w, i32_w]
    rfl
  refine done_ (by kernel_rfl) ?_
--ENDB
  go_wp2
  go_ret
  exact ⟨rfl, B5.out.trans (B7.out.mono B5.out.size)⟩
end Go.Proofs.Ytipkgplkeebhkaa.Pure
