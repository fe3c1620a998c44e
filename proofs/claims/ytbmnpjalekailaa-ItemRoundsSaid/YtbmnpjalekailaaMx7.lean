/- Written by a program of this session (a turned copy of the printer: wip/turnprint.py): for each Go function a plain one, and the walk that shows that the code comes to just its answers. -/
import Derived.Test.YtbmnpjalekailaaMx0
import Derived.Test.YtbmnpjalekailaaMx1
import Derived.Test.YtbmnpjalekailaaMx3
import Derived.Test.YtbmnpjalekailaaMx4
import Derived.Test.YtbmnpjalekailaaMx6
namespace Go.Proofs.Ytbmnpjalekailaa.M
open Go.RowKit Go.Proofs.YtbmnpjalekailaaW.PrintWords Go.Proofs.YtbmnpjalekailaaW.PrintLast Go.Proofs.YtbmnpjalekailaaW.PrintMore
attribute [local go_sem] max2_int min2_int max_two min_two max_three min_three max_four min_four   -- for this text's walks alone
set_option linter.unusedVariables false
set_option linter.unusedSimpArgs false

attribute [local go_sem high] eqA25
/-! ### contralaw09_ItemRounds: function 4 -/
mutual
def contralaw09_ItemRounds.l0 : Nat → Int → List Int → Int → Int → Int → Int → Int → Int → Int → Int → Int → Int → Option (Bool)
  | 0, _, _, _, _, _, _, _, _, _, _, _, _ => none
  | k + 1, x5, x27, x28, x29, x251000, x251001, x251002, x251003, x251004, x251005, x251006, x251007 => if x29 < x28 then (if 0 ≤ x29 then (if x29 < (x27.length : Int) then ((item_Dispute.f x251000 x251001 x251002 x251003 x251004 x251005 x251006 x251007).bind fun bt263 => (if bt263.2.2.2.2.2.2.2.2 = 0 then ((item_Adjust.f k bt263.1 bt263.2.1 bt263.2.2.1 bt263.2.2.2.1 bt263.2.2.2.2.1 bt263.2.2.2.2.2.1 bt263.2.2.2.2.2.2.1 bt263.2.2.2.2.2.2.2.1 (rd x27 x29)).bind fun bt273 => (if (rd x27 x29) ≥ 1 then (contralaw09_ItemRounds.j1 k x5 bt273.2.2.2.2.2.2.2.2 (decide ((rd x27 x29) ≤ 1125899906842624)) x27 x28 x29 bt263.1 bt263.2.1 bt263.2.2.1 bt263.2.2.2.1 bt263.2.2.2.2.1 bt263.2.2.2.2.2.1 bt263.2.2.2.2.2.2.1 bt263.2.2.2.2.2.2.2.1 bt273.1 bt273.2.1 bt273.2.2.1 bt273.2.2.2.1 bt273.2.2.2.2.1 bt273.2.2.2.2.2.1 bt273.2.2.2.2.2.2.1 bt273.2.2.2.2.2.2.2.1) else (contralaw09_ItemRounds.j1 k x5 bt273.2.2.2.2.2.2.2.2 false x27 x28 x29 bt263.1 bt263.2.1 bt263.2.2.1 bt263.2.2.2.1 bt263.2.2.2.2.1 bt263.2.2.2.2.2.1 bt263.2.2.2.2.2.2.1 bt263.2.2.2.2.2.2.2.1 bt273.1 bt273.2.1 bt273.2.2.1 bt273.2.2.2.1 bt273.2.2.2.2.1 bt273.2.2.2.2.2.1 bt273.2.2.2.2.2.2.1 bt273.2.2.2.2.2.2.2.1))) else (some false))) else (none)) else (none)) else ((item_Agree.f x251000 x251001 x251002 x251003 x251004 x251005 x251006 x251007).bind fun bt251 => (if bt251.2.2.2.2.2.2.2.2 = 0 then (if bt251.2.2.2.2.2.1 = x5 then ((item_Over.f bt251.1 bt251.2.1 bt251.2.2.1 bt251.2.2.2.1 bt251.2.2.2.2.1 bt251.2.2.2.2.2.1 bt251.2.2.2.2.2.2.1 bt251.2.2.2.2.2.2.2.1).bind fun t261 => (some (!t261))) else (some false)) else (some false)))
def contralaw09_ItemRounds.j1 : Nat → Int → Int → Bool → List Int → Int → Int → Int → Int → Int → Int → Int → Int → Int → Int → Int → Int → Int → Int → Int → Int → Int → Int → Option (Bool)
  | 0, _, _, _, _, _, _, _, _, _, _, _, _, _, _, _, _, _, _, _, _, _, _ => none
  | k + 1, x5, x11, x12, x27, x28, x29, x273000, x273001, x273002, x273003, x273004, x273005, x273006, x273007, x283000, x283001, x283002, x283003, x283004, x283005, x283006, x283007 => if x12 = true then (if ((x11 == 0) != (decide (x5 < 3))) = true then (contralaw09_ItemRounds.j2 k x5 x11 x27 x28 x29 true x273000 x273001 x273002 x273003 x273004 x273005 x273006 x273007 x283000 x283001 x283002 x283003 x283004 x283005 x283006 x283007) else (if x11 = 0 then (contralaw09_ItemRounds.j2 k x5 x11 x27 x28 x29 false x273000 x273001 x273002 x273003 x273004 x273005 x273006 x273007 x283000 x283001 x283002 x283003 x283004 x283005 x283006 x283007) else (contralaw09_ItemRounds.j2 k x5 x11 x27 x28 x29 (x11 != 91) x273000 x273001 x273002 x273003 x273004 x273005 x273006 x273007 x283000 x283001 x283002 x283003 x283004 x283005 x283006 x283007))) else (if x11 = 1 then (contralaw09_ItemRounds.j2 k x5 x11 x27 x28 x29 false x273000 x273001 x273002 x273003 x273004 x273005 x273006 x273007 x283000 x283001 x283002 x283003 x283004 x283005 x283006 x283007) else (contralaw09_ItemRounds.j2 k x5 x11 x27 x28 x29 true x273000 x273001 x273002 x273003 x273004 x273005 x273006 x273007 x283000 x283001 x283002 x283003 x283004 x283005 x283006 x283007))
def contralaw09_ItemRounds.j2 : Nat → Int → Int → List Int → Int → Int → Bool → Int → Int → Int → Int → Int → Int → Int → Int → Int → Int → Int → Int → Int → Int → Int → Int → Option (Bool)
  | 0, _, _, _, _, _, _, _, _, _, _, _, _, _, _, _, _, _, _, _, _, _, _ => none
  | k + 1, x5, x11, x27, x28, x29, x78, x273000, x273001, x273002, x273003, x273004, x273005, x273006, x273007, x283000, x283001, x283002, x283003, x283004, x283005, x283006, x283007 => if x78 = true then (some false) else (if x11 = 0 then (contralaw09_ItemRounds.l0 k (wrap64 (x5 + 1)) x27 x28 (wrap64 (x29 + 1)) x283000 x283001 x283002 x283003 x283004 x283005 x283006 x283007) else ((item_Cancel.f x283000 x283001 x283002 x283003 x283004 x283005 x283006 x283007).bind fun bt283 => (if bt283.2.2.2.2.2.2.2.2 = 0 then ((item_Over.f bt283.1 bt283.2.1 bt283.2.2.1 bt283.2.2.2.1 bt283.2.2.2.2.1 bt283.2.2.2.2.2.1 bt283.2.2.2.2.2.2.1 bt283.2.2.2.2.2.2.2.1).bind fun t293 => (if t293 = true then (some ((x283000 == x273000 && (x283001 == x273001)) && (x283002 == x273002 && (x283003 == x273003 && (x283004 == x273004 && (x283005 == x273005 && (x283006 == x273006 && (x283007 == x273007)))))))) else (some false))) else (some false))))
end
def contralaw09_ItemRounds.f (k : Nat) (l0 : List Int) : Option (Bool) := (contralaw09_lives.f k).bind fun t240 => (if t240 = true then (if (l0.length : Int) > 20 then (some true) else ((item_New.f k 0 1 1 0 5).bind fun bt241 => (contralaw09_ItemRounds.l0 k 0 l0 (l0.length : Int) 0 bt241.1 bt241.2.1 bt241.2.2.1 bt241.2.2.2.1 bt241.2.2.2.2.1 bt241.2.2.2.2.2.1 bt241.2.2.2.2.2.2.1 bt241.2.2.2.2.2.2.2.1))) else (some false))
theorem contralaw09_ItemRounds.mono_l : ∀ k, (∀ y0 y1 y2 y3 y4 y5 y6 y7 y8 y9 y10 y11, LeO (contralaw09_ItemRounds.l0 k y0 y1 y2 y3 y4 y5 y6 y7 y8 y9 y10 y11) (contralaw09_ItemRounds.l0 (k + 1) y0 y1 y2 y3 y4 y5 y6 y7 y8 y9 y10 y11)) ∧ (∀ y0 y1 y2 y3 y4 y5 y6 y7 y8 y9 y10 y11 y12 y13 y14 y15 y16 y17 y18 y19 y20 y21, LeO (contralaw09_ItemRounds.j1 k y0 y1 y2 y3 y4 y5 y6 y7 y8 y9 y10 y11 y12 y13 y14 y15 y16 y17 y18 y19 y20 y21) (contralaw09_ItemRounds.j1 (k + 1) y0 y1 y2 y3 y4 y5 y6 y7 y8 y9 y10 y11 y12 y13 y14 y15 y16 y17 y18 y19 y20 y21)) ∧ (∀ y0 y1 y2 y3 y4 y5 y6 y7 y8 y9 y10 y11 y12 y13 y14 y15 y16 y17 y18 y19 y20 y21, LeO (contralaw09_ItemRounds.j2 k y0 y1 y2 y3 y4 y5 y6 y7 y8 y9 y10 y11 y12 y13 y14 y15 y16 y17 y18 y19 y20 y21) (contralaw09_ItemRounds.j2 (k + 1) y0 y1 y2 y3 y4 y5 y6 y7 y8 y9 y10 y11 y12 y13 y14 y15 y16 y17 y18 y19 y20 y21))
  | 0 => ⟨fun _ _ _ _ _ _ _ _ _ _ _ _ r h => by simp [contralaw09_ItemRounds.l0] at h, fun _ _ _ _ _ _ _ _ _ _ _ _ _ _ _ _ _ _ _ _ _ _ r h => by simp [contralaw09_ItemRounds.j1] at h, fun _ _ _ _ _ _ _ _ _ _ _ _ _ _ _ _ _ _ _ _ _ _ r h => by simp [contralaw09_ItemRounds.j2] at h⟩
  | k + 1 => by
    obtain ⟨ih0, ih1, ih2⟩ := contralaw09_ItemRounds.mono_l k
    refine ⟨?_, ?_, ?_⟩
    · intro y0 y1 y2 y3 y4 y5 y6 y7 y8 y9 y10 y11
      unfold contralaw09_ItemRounds.l0
      repeat' first
      | (with_reducible exact ih0 _ _ _ _ _ _ _ _ _ _ _ _)
      | (with_reducible exact ih1 _ _ _ _ _ _ _ _ _ _ _ _ _ _ _ _ _ _ _ _ _ _)
      | (with_reducible exact ih2 _ _ _ _ _ _ _ _ _ _ _ _ _ _ _ _ _ _ _ _ _ _)
      | (with_reducible exact contralaw09_lives.mono _)
      | (with_reducible exact item_Adjust.mono _ _ _ _ _ _ _ _ _ _)
      | (with_reducible exact item_New.mono _ _ _ _ _ _)
      | (with_reducible exact LeO.refl _)
      | (with_reducible exact LeO.none _)
      | (with_reducible refine LeO.ite ?_ ?_)
      | (with_reducible refine LeO.bind ?_ (fun _ => ?_))
      | exact ih0 _ _ _ _ _ _ _ _ _ _ _ _
      | exact ih1 _ _ _ _ _ _ _ _ _ _ _ _ _ _ _ _ _ _ _ _ _ _
      | exact ih2 _ _ _ _ _ _ _ _ _ _ _ _ _ _ _ _ _ _ _ _ _ _
      | exact contralaw09_lives.mono _
      | exact item_Adjust.mono _ _ _ _ _ _ _ _ _ _
      | exact item_New.mono _ _ _ _ _ _
      | exact LeO.none _
      | refine LeO.ite ?_ ?_
      | refine LeO.bind ?_ (fun _ => ?_)
    · intro y0 y1 y2 y3 y4 y5 y6 y7 y8 y9 y10 y11 y12 y13 y14 y15 y16 y17 y18 y19 y20 y21
      unfold contralaw09_ItemRounds.j1
      repeat' first
      | (with_reducible exact ih0 _ _ _ _ _ _ _ _ _ _ _ _)
      | (with_reducible exact ih1 _ _ _ _ _ _ _ _ _ _ _ _ _ _ _ _ _ _ _ _ _ _)
      | (with_reducible exact ih2 _ _ _ _ _ _ _ _ _ _ _ _ _ _ _ _ _ _ _ _ _ _)
      | (with_reducible exact contralaw09_lives.mono _)
      | (with_reducible exact item_Adjust.mono _ _ _ _ _ _ _ _ _ _)
      | (with_reducible exact item_New.mono _ _ _ _ _ _)
      | (with_reducible exact LeO.refl _)
      | (with_reducible exact LeO.none _)
      | (with_reducible refine LeO.ite ?_ ?_)
      | (with_reducible refine LeO.bind ?_ (fun _ => ?_))
      | exact ih0 _ _ _ _ _ _ _ _ _ _ _ _
      | exact ih1 _ _ _ _ _ _ _ _ _ _ _ _ _ _ _ _ _ _ _ _ _ _
      | exact ih2 _ _ _ _ _ _ _ _ _ _ _ _ _ _ _ _ _ _ _ _ _ _
      | exact contralaw09_lives.mono _
      | exact item_Adjust.mono _ _ _ _ _ _ _ _ _ _
      | exact item_New.mono _ _ _ _ _ _
      | exact LeO.none _
      | refine LeO.ite ?_ ?_
      | refine LeO.bind ?_ (fun _ => ?_)
    · intro y0 y1 y2 y3 y4 y5 y6 y7 y8 y9 y10 y11 y12 y13 y14 y15 y16 y17 y18 y19 y20 y21
      unfold contralaw09_ItemRounds.j2
      repeat' first
      | (with_reducible exact ih0 _ _ _ _ _ _ _ _ _ _ _ _)
      | (with_reducible exact ih1 _ _ _ _ _ _ _ _ _ _ _ _ _ _ _ _ _ _ _ _ _ _)
      | (with_reducible exact ih2 _ _ _ _ _ _ _ _ _ _ _ _ _ _ _ _ _ _ _ _ _ _)
      | (with_reducible exact contralaw09_lives.mono _)
      | (with_reducible exact item_Adjust.mono _ _ _ _ _ _ _ _ _ _)
      | (with_reducible exact item_New.mono _ _ _ _ _ _)
      | (with_reducible exact LeO.refl _)
      | (with_reducible exact LeO.none _)
      | (with_reducible refine LeO.ite ?_ ?_)
      | (with_reducible refine LeO.bind ?_ (fun _ => ?_))
      | exact ih0 _ _ _ _ _ _ _ _ _ _ _ _
      | exact ih1 _ _ _ _ _ _ _ _ _ _ _ _ _ _ _ _ _ _ _ _ _ _
      | exact ih2 _ _ _ _ _ _ _ _ _ _ _ _ _ _ _ _ _ _ _ _ _ _
      | exact contralaw09_lives.mono _
      | exact item_Adjust.mono _ _ _ _ _ _ _ _ _ _
      | exact item_New.mono _ _ _ _ _ _
      | exact LeO.none _
      | refine LeO.ite ?_ ?_
      | refine LeO.bind ?_ (fun _ => ?_)
theorem contralaw09_ItemRounds.mono : ∀ a0 k, LeO (contralaw09_ItemRounds.f k a0) (contralaw09_ItemRounds.f (k + 1) a0) := by
  intro a0 k
  obtain ⟨ih0, ih1, ih2⟩ := contralaw09_ItemRounds.mono_l k
  unfold contralaw09_ItemRounds.f
  repeat' first
      | (with_reducible exact ih0 _ _ _ _ _ _ _ _ _ _ _ _)
      | (with_reducible exact ih1 _ _ _ _ _ _ _ _ _ _ _ _ _ _ _ _ _ _ _ _ _ _)
      | (with_reducible exact ih2 _ _ _ _ _ _ _ _ _ _ _ _ _ _ _ _ _ _ _ _ _ _)
      | (with_reducible exact contralaw09_lives.mono _)
      | (with_reducible exact item_Adjust.mono _ _ _ _ _ _ _ _ _ _)
      | (with_reducible exact item_New.mono _ _ _ _ _ _)
      | (with_reducible exact LeO.refl _)
      | (with_reducible exact LeO.none _)
      | (with_reducible refine LeO.ite ?_ ?_)
      | (with_reducible refine LeO.bind ?_ (fun _ => ?_))
      | exact ih0 _ _ _ _ _ _ _ _ _ _ _ _
      | exact ih1 _ _ _ _ _ _ _ _ _ _ _ _ _ _ _ _ _ _ _ _ _ _
      | exact ih2 _ _ _ _ _ _ _ _ _ _ _ _ _ _ _ _ _ _ _ _ _ _
      | exact contralaw09_lives.mono _
      | exact item_Adjust.mono _ _ _ _ _ _ _ _ _ _
      | exact item_New.mono _ _ _ _ _ _
      | exact LeO.none _
      | refine LeO.ite ?_ ?_
      | refine LeO.bind ?_ (fun _ => ?_)
set_option maxHeartbeats 8000000 in
set_option maxRecDepth 100000 in
theorem contralaw09_ItemRounds.calls (k : Nat) (A0 : Option Addr) (c0 : Nat) (l0 : List Int) (r : Bool) (w : World) (hr0 : Kd.C (Kd.int .i64) w A0 l0.length l0) (hc0 : l0.length ≤ c0) (h : contralaw09_ItemRounds.f k l0 = some r) (hT_ : r = true := by first | rfl | assumption) :
    Calls Try.prog 4 #[.slice A0 l0.length c0] w fun e w' => e = .returned (.bool r) ∧ Below w.heap.size w w' := by
  have hT := Aside0.mk hT_
  clear hT_
  have hu23 := Try.underlying23
  have hu25 := Try.underlying25
  have HR0 := Aside0.mk hr0
  have HC0 := Aside0.mk hc0
  clear hr0 hc0
  have HB := Aside0.mk (Below.refl w.heap.size w)
  have H : ((contralaw09_lives.f k).bind fun t240 => (if t240 = true then (if (l0.length : Int) > 20 then (some true) else ((item_New.f k 0 1 1 0 5).bind fun bt241 => (contralaw09_ItemRounds.l0 k 0 l0 (l0.length : Int) 0 bt241.1 bt241.2.1 bt241.2.2.1 bt241.2.2.2.1 bt241.2.2.2.2.1 bt241.2.2.2.2.2.1 bt241.2.2.2.2.2.2.1 bt241.2.2.2.2.2.2.2.1))) else (some false))) = some r := h
  clear h
  replace H := Option.bind_eq_some_iff.mp H
  obtain ⟨t240, A20, H⟩ := H
  replace H : (if t240 = true then (if (l0.length : Int) > 20 then (some true) else ((item_New.f k 0 1 1 0 5).bind fun bt241 => (contralaw09_ItemRounds.l0 k 0 l0 (l0.length : Int) 0 bt241.1 bt241.2.1 bt241.2.2.1 bt241.2.2.2.1 bt241.2.2.2.2.1 bt241.2.2.2.2.2.1 bt241.2.2.2.2.2.2.1 bt241.2.2.2.2.2.2.2.1))) else (some false)) = some r := H
  have A2 := Aside0.mk A20
  clear A20
  by_cases c3 : t240 = true
  · subst c3
    have H1 : (if (l0.length : Int) > 20 then (some true) else ((item_New.f k 0 1 1 0 5).bind fun bt241 => (contralaw09_ItemRounds.l0 k 0 l0 (l0.length : Int) 0 bt241.1 bt241.2.1 bt241.2.2.1 bt241.2.2.2.1 bt241.2.2.2.2.1 bt241.2.2.2.2.2.1 bt241.2.2.2.2.2.2.1 bt241.2.2.2.2.2.2.2.1))) = some r := by rw [if_pos rfl] at H; exact H
    clear H
    have H := H1
    clear H1
    by_cases c4 : (l0.length : Int) > 20
    · rw [if_pos c4] at H
      have c4b0 : decide (20 < (l0.length : Int)) = true := decide_eq_true c4
      have c4b1 : decide (20 < l0.length) = true := decide_eq_true (by omega)
      clear c4
      obtain rfl := Option.some.inj H
      go_enter Try.func4, Try.ntmps4
      go_wp2_with (first | ((with_reducible refine gate_callee (f := 9) rfl ?_); refine goesL_ (some 17) rfl rfl Try.func9 (by kernel_rfl) rfl #[] rfl (by (try simp only [List.map_toArray, List.map_cons, List.map_nil]); first | done | rfl | (simp only [List.length_drop, List.length_take]; rfl)) ?_; (with_reducible refine (contralaw09_lives.calls k  true _ A2.out).mono ?_); rintro e w5 ⟨rfl, hb⟩; refine ⟨_, rfl, ?_⟩; have n0_ := Aside0.mk (below_step (by repeat (first | (with_reducible first | exact HB.out | apply below_alloc | apply pw_below_drewN | apply below_drew1) | exact HB.out)) hb); clear HB; have HB := n0_; clear n0_; (try clear hb); (try clear hb2); (try clear hk); (try clear hi)))
      go_ret
      exact ⟨by first | rfl | (simp [errW_none, errW_some] <;> rfl) | (simp [*, errW_none, errW_some] <;> rfl), by repeat (first | (with_reducible first | exact HB.out | apply below_alloc | apply pw_below_drewN | apply below_drew1) | exact HB.out)⟩
    · rw [if_neg c4] at H
      have c4b0 : decide (20 < (l0.length : Int)) = false := decide_eq_false c4
      have c4b1 : decide (20 < l0.length) = false := decide_eq_false (by omega)
      clear c4
      replace H := Option.bind_eq_some_iff.mp H
      obtain ⟨⟨t241, t242, t243, t244, t245, t246, t247, t248, t249⟩, A60, H⟩ := H
      replace H : (contralaw09_ItemRounds.l0 k 0 l0 (l0.length : Int) 0 t241 t242 t243 t244 t245 t246 t247 t248) = some r := H
      have A6 := Aside0.mk A60
      clear A60
      have H' := Aside0.mk H
      clear H
      go_enter Try.func4, Try.ntmps4
      go_wp2_with (first | ((with_reducible refine gate_callee (f := 9) rfl ?_); refine goesL_ (some 17) rfl rfl Try.func9 (by kernel_rfl) rfl #[] rfl (by (try simp only [List.map_toArray, List.map_cons, List.map_nil]); first | done | rfl | (simp only [List.length_drop, List.length_take]; rfl)) ?_; (with_reducible refine (contralaw09_lives.calls k  true _ A2.out).mono ?_); rintro e w7 ⟨rfl, hb⟩; refine ⟨_, rfl, ?_⟩; have n0_ := Aside0.mk (below_step (by repeat (first | (with_reducible first | exact HB.out | apply below_alloc | apply pw_below_drewN | apply below_drew1) | exact HB.out)) hb); clear HB; have HB := n0_; clear n0_; (try clear hb); (try clear hb2); (try clear hk); (try clear hi)) | ((with_reducible refine gate_callee (f := 12) rfl ?_); refine goesL_ (some 24) rfl rfl Try.func12 (by kernel_rfl) rfl #[.agg #[.int .i64 0, .int .i64 1], .int .i64 1, .int .i64 0, .int .i64 5] rfl (by (try simp only [List.map_toArray, List.map_cons, List.map_nil]); first | done | rfl | (simp only [List.length_drop, List.length_take]; rfl)) ?_; (with_reducible refine (item_New.calls k 0 1 1 0 5 t241 t242 t243 t244 t245 t246 t247 t248 t249 _ A6.out).mono ?_); rintro e w8 ⟨rfl, hb⟩; refine ⟨_, rfl, ?_⟩; have n0_ := Aside0.mk (below_step (by repeat (first | (with_reducible first | exact HB.out | apply below_alloc | apply pw_below_drewN | apply below_drew1) | exact HB.out)) hb); clear HB; have HB := n0_; clear n0_; (try clear hb); (try clear hb2); (try clear hk); (try clear hi)) | ((with_reducible refine gate_dst (N := 3) rfl ?_); refine box_event ?hg (N := 3) ?hd (cs := #[.int .i64 0, .int .i64 0, .int .i64 0, .int .i64 0, .int .i64 0, .int .i64 0, .int .i64 0, .int .i64 0]) (t := 25) ?hr ?_; (case hd => rfl); (case hg => rfl); (case hr => first | (go_simp; done) | (go_simp; rfl)); intro gb250 hg w9 hbox hb; have n0_ := Aside0.mk (below_step (by repeat (first | (with_reducible first | exact HB.out | apply below_alloc | apply pw_below_drewN | apply below_drew1) | exact HB.out)) hb); have n1_ := Aside0.mk (hbox); have n2_ := Aside0.mk ((by rw [hg]; exact (below_size (by repeat (first | (with_reducible first | exact HB.out | apply below_alloc | apply pw_below_drewN | apply below_drew1) | exact HB.out))) : w.heap.size ≤ gb250)); have n3_ := Aside0.mk ((by rw [hg]; exact (below_size (by repeat (first | (with_reducible first | exact HB.out | apply below_alloc | apply pw_below_drewN | apply below_drew1) | exact HB.out))) : w.heap.size ≤ gb250)); clear HB; have HB := n0_; have BK250 := n1_; have GW250 := n2_; have GE250 := n3_; clear n0_ n1_ n2_ n3_; clear hb hbox hg; have hcz10_0 : w9.cell? ⟨gb250, 0, none⟩ = some (.int .i64 0) := (blk_cell BK250.out 0).trans rfl; have hcz10_1 : w9.cell? ⟨gb250, 1, none⟩ = some (.int .i64 0) := (blk_cell BK250.out 1).trans rfl; have hcz10_2 : w9.cell? ⟨gb250, 2, none⟩ = some (.int .i64 0) := (blk_cell BK250.out 2).trans rfl; have hcz10_3 : w9.cell? ⟨gb250, 3, none⟩ = some (.int .i64 0) := (blk_cell BK250.out 3).trans rfl; have hcz10_4 : w9.cell? ⟨gb250, 4, none⟩ = some (.int .i64 0) := (blk_cell BK250.out 4).trans rfl; have hcz10_5 : w9.cell? ⟨gb250, 5, none⟩ = some (.int .i64 0) := (blk_cell BK250.out 5).trans rfl; have hcz10_6 : w9.cell? ⟨gb250, 6, none⟩ = some (.int .i64 0) := (blk_cell BK250.out 6).trans rfl; have hcz10_7 : w9.cell? ⟨gb250, 7, none⟩ = some (.int .i64 0) := (blk_cell BK250.out 7).trans rfl; have hfz10_0 := blk_frozen BK250.out 0; have hfz10_1 := blk_frozen BK250.out 1; have hfz10_2 := blk_frozen BK250.out 2; have hfz10_3 := blk_frozen BK250.out 3; have hfz10_4 := blk_frozen BK250.out 4; have hfz10_5 := blk_frozen BK250.out 5; have hfz10_6 := blk_frozen BK250.out 6; have hfz10_7 := blk_frozen BK250.out 7))
      go_loopg [5, 29] k (fun kq v5 v29 w' => ∃ (x5_1 : Int) (x29_1 : Int) (x251000_1 : Int) (x251001_1 : Int) (x251002_1 : Int) (x251003_1 : Int) (x251004_1 : Int) (x251005_1 : Int) (x251006_1 : Int) (x251007_1 : Int), v5 = .int .i64 x5_1 ∧ v29 = .int .i64 x29_1 ∧ Aside0 (contralaw09_ItemRounds.l0 kq x5_1 l0 (l0.length : Int) x29_1 x251000_1 x251001_1 x251002_1 x251003_1 x251004_1 x251005_1 x251006_1 x251007_1 = some r) ∧ Aside0 (kq ≤ k) ∧ Aside0 (w'.heap[gb250]? = some (.cells #[.int .i64 x251000_1, .int .i64 x251001_1, .int .i64 x251002_1, .int .i64 x251003_1, .int .i64 x251004_1, .int .i64 x251005_1, .int .i64 x251006_1, .int .i64 x251007_1] 25 (0, 0))) ∧ Aside0 (Below w.heap.size w w'))
      case atStart => exact ⟨(0), (0), (t241), (t242), (t243), (t244), (t245), (t246), (t247), (t248), (by first | rfl | (simp; done) | (simp [*]; done)), (by first | rfl | (simp; done) | (simp [*]; done)), H', ⟨Nat.le_refl _⟩, ⟨by (with_reducible repeat (first | refine blk_drewN ?_ _ | refine blk_drew ?_ | refine blk_alloc ?_ _)); refine blk_put (cs := #[.int .i64 t241, .int .i64 t242, .int .i64 t243, .int .i64 t244, .int .i64 t245, .int .i64 t246, .int .i64 t247, .int .i64 0]) ?_ 7 _ rfl; (with_reducible repeat (first | refine blk_drewN ?_ _ | refine blk_drew ?_ | refine blk_alloc ?_ _)); refine blk_put (cs := #[.int .i64 t241, .int .i64 t242, .int .i64 t243, .int .i64 t244, .int .i64 t245, .int .i64 t246, .int .i64 0, .int .i64 0]) ?_ 6 _ rfl; (with_reducible repeat (first | refine blk_drewN ?_ _ | refine blk_drew ?_ | refine blk_alloc ?_ _)); refine blk_put (cs := #[.int .i64 t241, .int .i64 t242, .int .i64 t243, .int .i64 t244, .int .i64 t245, .int .i64 0, .int .i64 0, .int .i64 0]) ?_ 5 _ rfl; (with_reducible repeat (first | refine blk_drewN ?_ _ | refine blk_drew ?_ | refine blk_alloc ?_ _)); refine blk_put (cs := #[.int .i64 t241, .int .i64 t242, .int .i64 t243, .int .i64 t244, .int .i64 0, .int .i64 0, .int .i64 0, .int .i64 0]) ?_ 4 _ rfl; (with_reducible repeat (first | refine blk_drewN ?_ _ | refine blk_drew ?_ | refine blk_alloc ?_ _)); refine blk_put (cs := #[.int .i64 t241, .int .i64 t242, .int .i64 t243, .int .i64 0, .int .i64 0, .int .i64 0, .int .i64 0, .int .i64 0]) ?_ 3 _ rfl; (with_reducible repeat (first | refine blk_drewN ?_ _ | refine blk_drew ?_ | refine blk_alloc ?_ _)); refine blk_put (cs := #[.int .i64 t241, .int .i64 t242, .int .i64 0, .int .i64 0, .int .i64 0, .int .i64 0, .int .i64 0, .int .i64 0]) ?_ 2 _ rfl; (with_reducible repeat (first | refine blk_drewN ?_ _ | refine blk_drew ?_ | refine blk_alloc ?_ _)); refine blk_put (cs := #[.int .i64 t241, .int .i64 0, .int .i64 0, .int .i64 0, .int .i64 0, .int .i64 0, .int .i64 0, .int .i64 0]) ?_ 1 _ rfl; (with_reducible repeat (first | refine blk_drewN ?_ _ | refine blk_drew ?_ | refine blk_alloc ?_ _)); refine blk_put (cs := #[.int .i64 0, .int .i64 0, .int .i64 0, .int .i64 0, .int .i64 0, .int .i64 0, .int .i64 0, .int .i64 0]) ?_ 0 _ rfl; (with_reducible repeat (first | refine blk_drewN ?_ _ | refine blk_drew ?_ | refine blk_alloc ?_ _)); exact BK250.out⟩, ⟨by repeat (first | (with_reducible first | exact HB.out | apply below_alloc | apply pw_below_drewN | apply below_drew1 | refine below_set ?_ GE250.out) | exact HB.out)⟩⟩
      case round =>
        clear H'
        try clear c1
        try clear p2
        try clear c3
        try clear c4
        try clear c4b0
        try clear c4b1
        try clear c9
        try clear hcz10_0
        try clear hcz10_1
        try clear hcz10_2
        try clear hcz10_3
        try clear hcz10_4
        try clear hcz10_5
        try clear hcz10_6
        try clear hcz10_7
        try clear hfz10_0
        try clear hfz10_1
        try clear hfz10_2
        try clear hfz10_3
        try clear hfz10_4
        try clear hfz10_5
        try clear hfz10_6
        try clear hfz10_7
        obtain ⟨x5_1, x29_1, x251000_1, x251001_1, x251002_1, x251003_1, x251004_1, x251005_1, x251006_1, x251007_1, rfl, rfl, HA, HK1, BK250, HB⟩ := hrel
        cases gk with
        | zero => exact absurd HA.out (by simp [contralaw09_ItemRounds.l0])
        | succ k1 =>
          have H := HA.out
          clear HA
          simp only [contralaw09_ItemRounds.l0] at H
          by_cases c11 : x29_1 < (l0.length : Int)
          · rw [if_pos c11] at H
            have c11b0 : decide (x29_1 < (l0.length : Int)) = true := decide_eq_true c11
            clear c11
            by_cases c12 : 0 ≤ x29_1
            · rw [if_pos c12] at H
              have c12b0 : decide (0 ≤ x29_1) = true := decide_eq_true c12
              clear c12
              by_cases c13 : x29_1 < (l0.length : Int)
              · rw [if_pos c13] at H
                have c13b0 : decide (x29_1 < (l0.length : Int)) = true := decide_eq_true c13
                clear c13
                replace H := Option.bind_eq_some_iff.mp H
                obtain ⟨⟨t263, t264, t265, t266, t267, t268, t269, t270, t271⟩, A140, H⟩ := H
                replace H : (if t271 = 0 then ((item_Adjust.f k1 t263 t264 t265 t266 t267 t268 t269 t270 (rd l0 x29_1)).bind fun bt273 => (if (rd l0 x29_1) ≥ 1 then (contralaw09_ItemRounds.j1 k1 x5_1 bt273.2.2.2.2.2.2.2.2 (decide ((rd l0 x29_1) ≤ 1125899906842624)) l0 (l0.length : Int) x29_1 t263 t264 t265 t266 t267 t268 t269 t270 bt273.1 bt273.2.1 bt273.2.2.1 bt273.2.2.2.1 bt273.2.2.2.2.1 bt273.2.2.2.2.2.1 bt273.2.2.2.2.2.2.1 bt273.2.2.2.2.2.2.2.1) else (contralaw09_ItemRounds.j1 k1 x5_1 bt273.2.2.2.2.2.2.2.2 false l0 (l0.length : Int) x29_1 t263 t264 t265 t266 t267 t268 t269 t270 bt273.1 bt273.2.1 bt273.2.2.1 bt273.2.2.2.1 bt273.2.2.2.2.1 bt273.2.2.2.2.2.1 bt273.2.2.2.2.2.2.1 bt273.2.2.2.2.2.2.2.1))) else (some false)) = some r := H
                have A14 := Aside0.mk A140
                clear A140
                by_cases c15 : t271 = 0
                · rw [if_pos c15] at H
                  have c15b0 : (t271 == 0) = true := beq_iff_eq.mpr c15
                  have c15b1 : (t271 != 0) = false := bne_eq_false_iff_eq.mpr c15
                  clear c15
                  replace H := Option.bind_eq_some_iff.mp H
                  obtain ⟨⟨t273, t274, t275, t276, t277, t278, t279, t280, t281⟩, A160, H⟩ := H
                  replace H : (if (rd l0 x29_1) ≥ 1 then (contralaw09_ItemRounds.j1 k1 x5_1 t281 (decide ((rd l0 x29_1) ≤ 1125899906842624)) l0 (l0.length : Int) x29_1 t263 t264 t265 t266 t267 t268 t269 t270 t273 t274 t275 t276 t277 t278 t279 t280) else (contralaw09_ItemRounds.j1 k1 x5_1 t281 false l0 (l0.length : Int) x29_1 t263 t264 t265 t266 t267 t268 t269 t270 t273 t274 t275 t276 t277 t278 t279 t280)) = some r := H
                  have A16 := Aside0.mk A160
                  clear A160
                  have HC17 := Aside0.mk H
                  clear H
                  have p262 : 0 ≤ (x29_1 : Int) := of_decide_eq_true (by first | (with_reducible assumption) | assumption)
                  have q262 : x29_1 < (l0.length : Int) := of_decide_eq_true (by first | (with_reducible assumption) | assumption)
                  obtain ⟨ad262, e262, hx262_0⟩ := Kd.at_int HR0.out x29_1 p262 q262
                  cases e262
                  replace hx262_0 := (HB.out.cell (World.block_lt_of_cell? w _ hx262_0)).trans hx262_0
                  replace p262 := eq_true p262
                  replace q262 := eq_true q262
                  have hcz18_0 : wr.cell? ⟨gb250, 0, none⟩ = some (.int .i64 x251000_1) := (blk_cell BK250.out 0).trans rfl
                  have hcz18_1 : wr.cell? ⟨gb250, 1, none⟩ = some (.int .i64 x251001_1) := (blk_cell BK250.out 1).trans rfl
                  have hcz18_2 : wr.cell? ⟨gb250, 2, none⟩ = some (.int .i64 x251002_1) := (blk_cell BK250.out 2).trans rfl
                  have hcz18_3 : wr.cell? ⟨gb250, 3, none⟩ = some (.int .i64 x251003_1) := (blk_cell BK250.out 3).trans rfl
                  have hcz18_4 : wr.cell? ⟨gb250, 4, none⟩ = some (.int .i64 x251004_1) := (blk_cell BK250.out 4).trans rfl
                  have hcz18_5 : wr.cell? ⟨gb250, 5, none⟩ = some (.int .i64 x251005_1) := (blk_cell BK250.out 5).trans rfl
                  have hcz18_6 : wr.cell? ⟨gb250, 6, none⟩ = some (.int .i64 x251006_1) := (blk_cell BK250.out 6).trans rfl
                  have hcz18_7 : wr.cell? ⟨gb250, 7, none⟩ = some (.int .i64 x251007_1) := (blk_cell BK250.out 7).trans rfl
                  have hfz18_0 := blk_frozen BK250.out 0
                  have hfz18_1 := blk_frozen BK250.out 1
                  have hfz18_2 := blk_frozen BK250.out 2
                  have hfz18_3 := blk_frozen BK250.out 3
                  have hfz18_4 := blk_frozen BK250.out 4
                  have hfz18_5 := blk_frozen BK250.out 5
                  have hfz18_6 := blk_frozen BK250.out 6
                  have hfz18_7 := blk_frozen BK250.out 7
                  go_upto_region 14 with (first | ((with_reducible refine gate_callee (f := 13) rfl ?_); refine goesL_ (some 35) rfl rfl Try.func13 (by kernel_rfl) rfl #[.agg #[.int .i64 x251000_1, .int .i64 x251001_1, .int .i64 x251002_1, .int .i64 x251003_1, .int .i64 x251004_1, .int .i64 x251005_1, .int .i64 x251006_1, .int .i64 x251007_1]] rfl (by (try simp only [List.map_toArray, List.map_cons, List.map_nil]); first | done | rfl | (simp only [List.length_drop, List.length_take]; rfl)) ?_; (with_reducible refine (item_Dispute.calls x251000_1 x251001_1 x251002_1 x251003_1 x251004_1 x251005_1 x251006_1 x251007_1 t263 t264 t265 t266 t267 t268 t269 t270 t271 _ A14.out).mono ?_); rintro e w19 ⟨rfl, hb⟩; refine ⟨_, rfl, ?_⟩; have n0_ := Aside0.mk (blk_below (g := gb250) (o := .cells #[.int .i64 x251000_1, .int .i64 x251001_1, .int .i64 x251002_1, .int .i64 x251003_1, .int .i64 x251004_1, .int .i64 x251005_1, .int .i64 x251006_1, .int .i64 x251007_1] 25 (0, 0)) (by (with_reducible repeat (first | refine blk_drewN ?_ _ | refine blk_drew ?_ | refine blk_alloc ?_ _)); exact BK250.out) hb); have n1_ := Aside0.mk (below_step (by repeat (first | (with_reducible first | exact HB.out | apply below_alloc | apply pw_below_drewN | apply below_drew1 | refine below_set ?_ GE250.out) | exact HB.out)) hb); clear BK250; clear HB; have BK250 := n0_; have HB := n1_; clear n0_ n1_; (try clear hb); (try clear hb2); (try clear hk); (try clear hi)) | ((with_reducible refine gate_dst (N := 8) rfl ?_); refine box_event ?hg (N := 8) ?hd (cs := #[.int .i64 0, .int .i64 0, .int .i64 0, .int .i64 0, .int .i64 0, .int .i64 0, .int .i64 0, .int .i64 0]) (t := 25) ?hr ?_; (case hd => rfl); (case hg => rfl); (case hr => first | (go_simp; done) | (go_simp; rfl)); intro gb272 hg w20 hbox hb; have n0_ := Aside0.mk (blk_below (g := gb250) (o := .cells #[.int .i64 x251000_1, .int .i64 x251001_1, .int .i64 x251002_1, .int .i64 x251003_1, .int .i64 x251004_1, .int .i64 x251005_1, .int .i64 x251006_1, .int .i64 x251007_1] 25 (0, 0)) (by (with_reducible repeat (first | refine blk_drewN ?_ _ | refine blk_drew ?_ | refine blk_alloc ?_ _)); exact BK250.out) hb); have n1_ := Aside0.mk (below_step (by repeat (first | (with_reducible first | exact HB.out | apply below_alloc | apply pw_below_drewN | apply below_drew1 | refine below_set ?_ GE250.out) | exact HB.out)) hb); have n2_ := Aside0.mk (hbox); have n3_ := Aside0.mk ((by rw [hg]; exact (below_size (by repeat (first | (with_reducible first | exact HB.out | apply below_alloc | apply pw_below_drewN | apply below_drew1 | refine below_set ?_ GE250.out) | exact HB.out))) : w.heap.size ≤ gb272)); have n4_ := Aside0.mk ((by rw [hg]; exact (below_size (by repeat (first | (with_reducible first | exact HB.out | apply below_alloc | apply pw_below_drewN | apply below_drew1 | refine below_set ?_ GE250.out) | exact HB.out))) : w.heap.size ≤ gb272)); have n5_ := Aside0.mk ((by rw [hg]; exact Nat.ne_of_lt (blk_lt (g := gb250) (o := .cells #[.int .i64 x251000_1, .int .i64 x251001_1, .int .i64 x251002_1, .int .i64 x251003_1, .int .i64 x251004_1, .int .i64 x251005_1, .int .i64 x251006_1, .int .i64 x251007_1] 25 (0, 0)) (by (with_reducible repeat (first | refine blk_drewN ?_ _ | refine blk_drew ?_ | refine blk_alloc ?_ _)); exact BK250.out)) : gb250 ≠ gb272)); have n6_ := Aside0.mk ((by rw [hg]; exact Nat.ne_of_gt (blk_lt (g := gb250) (o := .cells #[.int .i64 x251000_1, .int .i64 x251001_1, .int .i64 x251002_1, .int .i64 x251003_1, .int .i64 x251004_1, .int .i64 x251005_1, .int .i64 x251006_1, .int .i64 x251007_1] 25 (0, 0)) (by (with_reducible repeat (first | refine blk_drewN ?_ _ | refine blk_drew ?_ | refine blk_alloc ?_ _)); exact BK250.out)) : gb272 ≠ gb250)); clear BK250; clear HB; have BK250 := n0_; have HB := n1_; have BK272 := n2_; have GW272 := n3_; have GE272 := n4_; have NB250_272 := n5_; have NB272_250 := n6_; clear n0_ n1_ n2_ n3_ n4_ n5_ n6_; clear hb hbox hg; have hnb21 := NB272_250.out; have hnc21 := NB250_272.out; have hcz22_0 : w20.cell? ⟨gb272, 0, none⟩ = some (.int .i64 0) := (blk_cell BK272.out 0).trans rfl; have hcz22_1 : w20.cell? ⟨gb272, 1, none⟩ = some (.int .i64 0) := (blk_cell BK272.out 1).trans rfl; have hcz22_2 : w20.cell? ⟨gb272, 2, none⟩ = some (.int .i64 0) := (blk_cell BK272.out 2).trans rfl; have hcz22_3 : w20.cell? ⟨gb272, 3, none⟩ = some (.int .i64 0) := (blk_cell BK272.out 3).trans rfl; have hcz22_4 : w20.cell? ⟨gb272, 4, none⟩ = some (.int .i64 0) := (blk_cell BK272.out 4).trans rfl; have hcz22_5 : w20.cell? ⟨gb272, 5, none⟩ = some (.int .i64 0) := (blk_cell BK272.out 5).trans rfl; have hcz22_6 : w20.cell? ⟨gb272, 6, none⟩ = some (.int .i64 0) := (blk_cell BK272.out 6).trans rfl; have hcz22_7 : w20.cell? ⟨gb272, 7, none⟩ = some (.int .i64 0) := (blk_cell BK272.out 7).trans rfl; have hfz22_0 := blk_frozen BK272.out 0; have hfz22_1 := blk_frozen BK272.out 1; have hfz22_2 := blk_frozen BK272.out 2; have hfz22_3 := blk_frozen BK272.out 3; have hfz22_4 := blk_frozen BK272.out 4; have hfz22_5 := blk_frozen BK272.out 5; have hfz22_6 := blk_frozen BK272.out 6; have hfz22_7 := blk_frozen BK272.out 7) | ((with_reducible refine gate_callee (f := 14) rfl ?_); refine goesL_ (some 43) rfl rfl Try.func14 (by kernel_rfl) rfl #[.agg #[.int .i64 t263, .int .i64 t264, .int .i64 t265, .int .i64 t266, .int .i64 t267, .int .i64 t268, .int .i64 t269, .int .i64 t270], .int .i64 (rd l0 x29_1)] rfl (by (try simp only [List.map_toArray, List.map_cons, List.map_nil]); first | done | rfl | (simp only [List.length_drop, List.length_take]; rfl)) ?_; (with_reducible refine (item_Adjust.calls k1 t263 t264 t265 t266 t267 t268 t269 t270 (rd l0 x29_1) t273 t274 t275 t276 t277 t278 t279 t280 t281 _ A16.out).mono ?_); rintro e w23 ⟨rfl, hb⟩; refine ⟨_, rfl, ?_⟩; have n0_ := Aside0.mk (blk_below (g := gb250) (o := .cells #[.int .i64 x251000_1, .int .i64 x251001_1, .int .i64 x251002_1, .int .i64 x251003_1, .int .i64 x251004_1, .int .i64 x251005_1, .int .i64 x251006_1, .int .i64 x251007_1] 25 (0, 0)) (by (with_reducible repeat (first | refine blk_drewN ?_ _ | refine blk_drew ?_ | refine blk_alloc ?_ _)); refine blk_far ?_ NB250_272.out _; (with_reducible repeat (first | refine blk_drewN ?_ _ | refine blk_drew ?_ | refine blk_alloc ?_ _)); refine blk_far ?_ NB250_272.out _; (with_reducible repeat (first | refine blk_drewN ?_ _ | refine blk_drew ?_ | refine blk_alloc ?_ _)); refine blk_far ?_ NB250_272.out _; (with_reducible repeat (first | refine blk_drewN ?_ _ | refine blk_drew ?_ | refine blk_alloc ?_ _)); refine blk_far ?_ NB250_272.out _; (with_reducible repeat (first | refine blk_drewN ?_ _ | refine blk_drew ?_ | refine blk_alloc ?_ _)); refine blk_far ?_ NB250_272.out _; (with_reducible repeat (first | refine blk_drewN ?_ _ | refine blk_drew ?_ | refine blk_alloc ?_ _)); refine blk_far ?_ NB250_272.out _; (with_reducible repeat (first | refine blk_drewN ?_ _ | refine blk_drew ?_ | refine blk_alloc ?_ _)); refine blk_far ?_ NB250_272.out _; (with_reducible repeat (first | refine blk_drewN ?_ _ | refine blk_drew ?_ | refine blk_alloc ?_ _)); refine blk_far ?_ NB250_272.out _; (with_reducible repeat (first | refine blk_drewN ?_ _ | refine blk_drew ?_ | refine blk_alloc ?_ _)); exact BK250.out) hb); have n1_ := Aside0.mk (blk_below (g := gb272) (o := .cells #[.int .i64 t263, .int .i64 t264, .int .i64 t265, .int .i64 t266, .int .i64 t267, .int .i64 t268, .int .i64 t269, .int .i64 t270] 25 (0, 0)) (by (with_reducible repeat (first | refine blk_drewN ?_ _ | refine blk_drew ?_ | refine blk_alloc ?_ _)); refine blk_put (cs := #[.int .i64 t263, .int .i64 t264, .int .i64 t265, .int .i64 t266, .int .i64 t267, .int .i64 t268, .int .i64 t269, .int .i64 0]) ?_ 7 _ rfl; (with_reducible repeat (first | refine blk_drewN ?_ _ | refine blk_drew ?_ | refine blk_alloc ?_ _)); refine blk_put (cs := #[.int .i64 t263, .int .i64 t264, .int .i64 t265, .int .i64 t266, .int .i64 t267, .int .i64 t268, .int .i64 0, .int .i64 0]) ?_ 6 _ rfl; (with_reducible repeat (first | refine blk_drewN ?_ _ | refine blk_drew ?_ | refine blk_alloc ?_ _)); refine blk_put (cs := #[.int .i64 t263, .int .i64 t264, .int .i64 t265, .int .i64 t266, .int .i64 t267, .int .i64 0, .int .i64 0, .int .i64 0]) ?_ 5 _ rfl; (with_reducible repeat (first | refine blk_drewN ?_ _ | refine blk_drew ?_ | refine blk_alloc ?_ _)); refine blk_put (cs := #[.int .i64 t263, .int .i64 t264, .int .i64 t265, .int .i64 t266, .int .i64 0, .int .i64 0, .int .i64 0, .int .i64 0]) ?_ 4 _ rfl; (with_reducible repeat (first | refine blk_drewN ?_ _ | refine blk_drew ?_ | refine blk_alloc ?_ _)); refine blk_put (cs := #[.int .i64 t263, .int .i64 t264, .int .i64 t265, .int .i64 0, .int .i64 0, .int .i64 0, .int .i64 0, .int .i64 0]) ?_ 3 _ rfl; (with_reducible repeat (first | refine blk_drewN ?_ _ | refine blk_drew ?_ | refine blk_alloc ?_ _)); refine blk_put (cs := #[.int .i64 t263, .int .i64 t264, .int .i64 0, .int .i64 0, .int .i64 0, .int .i64 0, .int .i64 0, .int .i64 0]) ?_ 2 _ rfl; (with_reducible repeat (first | refine blk_drewN ?_ _ | refine blk_drew ?_ | refine blk_alloc ?_ _)); refine blk_put (cs := #[.int .i64 t263, .int .i64 0, .int .i64 0, .int .i64 0, .int .i64 0, .int .i64 0, .int .i64 0, .int .i64 0]) ?_ 1 _ rfl; (with_reducible repeat (first | refine blk_drewN ?_ _ | refine blk_drew ?_ | refine blk_alloc ?_ _)); refine blk_put (cs := #[.int .i64 0, .int .i64 0, .int .i64 0, .int .i64 0, .int .i64 0, .int .i64 0, .int .i64 0, .int .i64 0]) ?_ 0 _ rfl; (with_reducible repeat (first | refine blk_drewN ?_ _ | refine blk_drew ?_ | refine blk_alloc ?_ _)); exact BK272.out) hb); have n2_ := Aside0.mk (below_step (by repeat (first | (with_reducible first | exact HB.out | apply below_alloc | apply pw_below_drewN | apply below_drew1 | refine below_set ?_ GE250.out | refine below_set ?_ GE272.out) | exact HB.out)) hb); clear BK250; clear BK272; clear HB; have BK250 := n0_; have BK272 := n1_; have HB := n2_; clear n0_ n1_ n2_; (try clear hb); (try clear hb2); (try clear hk); (try clear hi)) | ((with_reducible refine gate_dst (N := 10) rfl ?_); refine box_event ?hg (N := 10) ?hd (cs := #[.int .i64 0, .int .i64 0, .int .i64 0, .int .i64 0, .int .i64 0, .int .i64 0, .int .i64 0, .int .i64 0]) (t := 25) ?hr ?_; (case hd => rfl); (case hg => rfl); (case hr => first | (go_simp; done) | (go_simp; rfl)); intro gb282 hg w24 hbox hb; have n0_ := Aside0.mk (blk_below (g := gb250) (o := .cells #[.int .i64 x251000_1, .int .i64 x251001_1, .int .i64 x251002_1, .int .i64 x251003_1, .int .i64 x251004_1, .int .i64 x251005_1, .int .i64 x251006_1, .int .i64 x251007_1] 25 (0, 0)) (by (with_reducible repeat (first | refine blk_drewN ?_ _ | refine blk_drew ?_ | refine blk_alloc ?_ _)); exact BK250.out) hb); have n1_ := Aside0.mk (blk_below (g := gb272) (o := .cells #[.int .i64 t263, .int .i64 t264, .int .i64 t265, .int .i64 t266, .int .i64 t267, .int .i64 t268, .int .i64 t269, .int .i64 t270] 25 (0, 0)) (by (with_reducible repeat (first | refine blk_drewN ?_ _ | refine blk_drew ?_ | refine blk_alloc ?_ _)); exact BK272.out) hb); have n2_ := Aside0.mk (below_step (by repeat (first | (with_reducible first | exact HB.out | apply below_alloc | apply pw_below_drewN | apply below_drew1 | refine below_set ?_ GE250.out | refine below_set ?_ GE272.out) | exact HB.out)) hb); have n3_ := Aside0.mk (hbox); have n4_ := Aside0.mk ((by rw [hg]; exact (below_size (by repeat (first | (with_reducible first | exact HB.out | apply below_alloc | apply pw_below_drewN | apply below_drew1 | refine below_set ?_ GE250.out | refine below_set ?_ GE272.out) | exact HB.out))) : w.heap.size ≤ gb282)); have n5_ := Aside0.mk ((by rw [hg]; exact (below_size (by repeat (first | (with_reducible first | exact HB.out | apply below_alloc | apply pw_below_drewN | apply below_drew1 | refine below_set ?_ GE250.out | refine below_set ?_ GE272.out) | exact HB.out))) : w.heap.size ≤ gb282)); have n6_ := Aside0.mk ((by rw [hg]; exact Nat.ne_of_lt (blk_lt (g := gb250) (o := .cells #[.int .i64 x251000_1, .int .i64 x251001_1, .int .i64 x251002_1, .int .i64 x251003_1, .int .i64 x251004_1, .int .i64 x251005_1, .int .i64 x251006_1, .int .i64 x251007_1] 25 (0, 0)) (by (with_reducible repeat (first | refine blk_drewN ?_ _ | refine blk_drew ?_ | refine blk_alloc ?_ _)); exact BK250.out)) : gb250 ≠ gb282)); have n7_ := Aside0.mk ((by rw [hg]; exact Nat.ne_of_gt (blk_lt (g := gb250) (o := .cells #[.int .i64 x251000_1, .int .i64 x251001_1, .int .i64 x251002_1, .int .i64 x251003_1, .int .i64 x251004_1, .int .i64 x251005_1, .int .i64 x251006_1, .int .i64 x251007_1] 25 (0, 0)) (by (with_reducible repeat (first | refine blk_drewN ?_ _ | refine blk_drew ?_ | refine blk_alloc ?_ _)); exact BK250.out)) : gb282 ≠ gb250)); have n8_ := Aside0.mk ((by rw [hg]; exact Nat.ne_of_lt (blk_lt (g := gb272) (o := .cells #[.int .i64 t263, .int .i64 t264, .int .i64 t265, .int .i64 t266, .int .i64 t267, .int .i64 t268, .int .i64 t269, .int .i64 t270] 25 (0, 0)) (by (with_reducible repeat (first | refine blk_drewN ?_ _ | refine blk_drew ?_ | refine blk_alloc ?_ _)); exact BK272.out)) : gb272 ≠ gb282)); have n9_ := Aside0.mk ((by rw [hg]; exact Nat.ne_of_gt (blk_lt (g := gb272) (o := .cells #[.int .i64 t263, .int .i64 t264, .int .i64 t265, .int .i64 t266, .int .i64 t267, .int .i64 t268, .int .i64 t269, .int .i64 t270] 25 (0, 0)) (by (with_reducible repeat (first | refine blk_drewN ?_ _ | refine blk_drew ?_ | refine blk_alloc ?_ _)); exact BK272.out)) : gb282 ≠ gb272)); clear BK250; clear BK272; clear HB; have BK250 := n0_; have BK272 := n1_; have HB := n2_; have BK282 := n3_; have GW282 := n4_; have GE282 := n5_; have NB250_282 := n6_; have NB282_250 := n7_; have NB272_282 := n8_; have NB282_272 := n9_; clear n0_ n1_ n2_ n3_ n4_ n5_ n6_ n7_ n8_ n9_; clear hb hbox hg; have hnb25 := NB282_250.out; have hnc25 := NB250_282.out; have hnb26 := NB282_272.out; have hnc26 := NB272_282.out; have hcz27_0 : w24.cell? ⟨gb282, 0, none⟩ = some (.int .i64 0) := (blk_cell BK282.out 0).trans rfl; have hcz27_1 : w24.cell? ⟨gb282, 1, none⟩ = some (.int .i64 0) := (blk_cell BK282.out 1).trans rfl; have hcz27_2 : w24.cell? ⟨gb282, 2, none⟩ = some (.int .i64 0) := (blk_cell BK282.out 2).trans rfl; have hcz27_3 : w24.cell? ⟨gb282, 3, none⟩ = some (.int .i64 0) := (blk_cell BK282.out 3).trans rfl; have hcz27_4 : w24.cell? ⟨gb282, 4, none⟩ = some (.int .i64 0) := (blk_cell BK282.out 4).trans rfl; have hcz27_5 : w24.cell? ⟨gb282, 5, none⟩ = some (.int .i64 0) := (blk_cell BK282.out 5).trans rfl; have hcz27_6 : w24.cell? ⟨gb282, 6, none⟩ = some (.int .i64 0) := (blk_cell BK282.out 6).trans rfl; have hcz27_7 : w24.cell? ⟨gb282, 7, none⟩ = some (.int .i64 0) := (blk_cell BK282.out 7).trans rfl; have hfz27_0 := blk_frozen BK282.out 0; have hfz27_1 := blk_frozen BK282.out 1; have hfz27_2 := blk_frozen BK282.out 2; have hfz27_3 := blk_frozen BK282.out 3; have hfz27_4 := blk_frozen BK282.out 4; have hfz27_5 := blk_frozen BK282.out 5; have hfz27_6 := blk_frozen BK282.out 6; have hfz27_7 := blk_frozen BK282.out 7))
                  (try simp only [Act.put, List.setIfInBounds_toArray, List.set_cons_zero, List.set_cons_succ])
                  go_cut [12] (fun v12 wc => ∃ (kq : Nat) (x12_16 : Bool), v12 = .bool x12_16 ∧ Aside0 (contralaw09_ItemRounds.j1 kq x5_1 t281 x12_16 l0 (l0.length : Int) x29_1 t263 t264 t265 t266 t267 t268 t269 t270 t273 t274 t275 t276 t277 t278 t279 t280 = some r) ∧ Aside0 (kq ≤ k1) ∧ Aside0 (wc.heap[gb250]? = some (.cells #[.int .i64 x251000_1, .int .i64 x251001_1, .int .i64 x251002_1, .int .i64 x251003_1, .int .i64 x251004_1, .int .i64 x251005_1, .int .i64 x251006_1, .int .i64 x251007_1] 25 (0, 0))) ∧ Aside0 (wc.heap[gb272]? = some (.cells #[.int .i64 t263, .int .i64 t264, .int .i64 t265, .int .i64 t266, .int .i64 t267, .int .i64 t268, .int .i64 t269, .int .i64 t270] 25 (0, 0))) ∧ Aside0 (wc.heap[gb282]? = some (.cells #[.int .i64 t273, .int .i64 t274, .int .i64 t275, .int .i64 t276, .int .i64 t277, .int .i64 t278, .int .i64 t279, .int .i64 t280] 25 (0, 0))) ∧ Aside0 (Below w.heap.size w wc))
                  case first =>
                    have H := HC17.out
                    clear HC17
                    by_cases c28 : (rd l0 x29_1) ≥ 1
                    · rw [if_pos c28] at H
                      have c28b0 : decide (1 ≤ (rd l0 x29_1)) = true := decide_eq_true c28
                      clear c28
                      (first | rw [c28b0] | (simp only [i64_w, i32_w]; rw [c28b0]) | skip)
                      have H' := Aside0.mk H
                      clear H
                      go_wp2
                      go_meet
                      case rel => exact ⟨_, (decide ((rd l0 x29_1) ≤ 1125899906842624)), (by first | rfl | (simp; done) | (simp [*]; done)), H', ⟨by have := HK1.out; first | omega | exact Nat.le_refl _⟩, ⟨by (with_reducible repeat (first | refine blk_drewN ?_ _ | refine blk_drew ?_ | refine blk_alloc ?_ _)); refine blk_far ?_ NB250_282.out _; (with_reducible repeat (first | refine blk_drewN ?_ _ | refine blk_drew ?_ | refine blk_alloc ?_ _)); refine blk_far ?_ NB250_282.out _; (with_reducible repeat (first | refine blk_drewN ?_ _ | refine blk_drew ?_ | refine blk_alloc ?_ _)); refine blk_far ?_ NB250_282.out _; (with_reducible repeat (first | refine blk_drewN ?_ _ | refine blk_drew ?_ | refine blk_alloc ?_ _)); refine blk_far ?_ NB250_282.out _; (with_reducible repeat (first | refine blk_drewN ?_ _ | refine blk_drew ?_ | refine blk_alloc ?_ _)); refine blk_far ?_ NB250_282.out _; (with_reducible repeat (first | refine blk_drewN ?_ _ | refine blk_drew ?_ | refine blk_alloc ?_ _)); refine blk_far ?_ NB250_282.out _; (with_reducible repeat (first | refine blk_drewN ?_ _ | refine blk_drew ?_ | refine blk_alloc ?_ _)); refine blk_far ?_ NB250_282.out _; (with_reducible repeat (first | refine blk_drewN ?_ _ | refine blk_drew ?_ | refine blk_alloc ?_ _)); refine blk_far ?_ NB250_282.out _; (with_reducible repeat (first | refine blk_drewN ?_ _ | refine blk_drew ?_ | refine blk_alloc ?_ _)); exact BK250.out⟩, ⟨by (with_reducible repeat (first | refine blk_drewN ?_ _ | refine blk_drew ?_ | refine blk_alloc ?_ _)); refine blk_far ?_ NB272_282.out _; (with_reducible repeat (first | refine blk_drewN ?_ _ | refine blk_drew ?_ | refine blk_alloc ?_ _)); refine blk_far ?_ NB272_282.out _; (with_reducible repeat (first | refine blk_drewN ?_ _ | refine blk_drew ?_ | refine blk_alloc ?_ _)); refine blk_far ?_ NB272_282.out _; (with_reducible repeat (first | refine blk_drewN ?_ _ | refine blk_drew ?_ | refine blk_alloc ?_ _)); refine blk_far ?_ NB272_282.out _; (with_reducible repeat (first | refine blk_drewN ?_ _ | refine blk_drew ?_ | refine blk_alloc ?_ _)); refine blk_far ?_ NB272_282.out _; (with_reducible repeat (first | refine blk_drewN ?_ _ | refine blk_drew ?_ | refine blk_alloc ?_ _)); refine blk_far ?_ NB272_282.out _; (with_reducible repeat (first | refine blk_drewN ?_ _ | refine blk_drew ?_ | refine blk_alloc ?_ _)); refine blk_far ?_ NB272_282.out _; (with_reducible repeat (first | refine blk_drewN ?_ _ | refine blk_drew ?_ | refine blk_alloc ?_ _)); refine blk_far ?_ NB272_282.out _; (with_reducible repeat (first | refine blk_drewN ?_ _ | refine blk_drew ?_ | refine blk_alloc ?_ _)); exact BK272.out⟩, ⟨by (with_reducible repeat (first | refine blk_drewN ?_ _ | refine blk_drew ?_ | refine blk_alloc ?_ _)); refine blk_put (cs := #[.int .i64 t273, .int .i64 t274, .int .i64 t275, .int .i64 t276, .int .i64 t277, .int .i64 t278, .int .i64 t279, .int .i64 0]) ?_ 7 _ rfl; (with_reducible repeat (first | refine blk_drewN ?_ _ | refine blk_drew ?_ | refine blk_alloc ?_ _)); refine blk_put (cs := #[.int .i64 t273, .int .i64 t274, .int .i64 t275, .int .i64 t276, .int .i64 t277, .int .i64 t278, .int .i64 0, .int .i64 0]) ?_ 6 _ rfl; (with_reducible repeat (first | refine blk_drewN ?_ _ | refine blk_drew ?_ | refine blk_alloc ?_ _)); refine blk_put (cs := #[.int .i64 t273, .int .i64 t274, .int .i64 t275, .int .i64 t276, .int .i64 t277, .int .i64 0, .int .i64 0, .int .i64 0]) ?_ 5 _ rfl; (with_reducible repeat (first | refine blk_drewN ?_ _ | refine blk_drew ?_ | refine blk_alloc ?_ _)); refine blk_put (cs := #[.int .i64 t273, .int .i64 t274, .int .i64 t275, .int .i64 t276, .int .i64 0, .int .i64 0, .int .i64 0, .int .i64 0]) ?_ 4 _ rfl; (with_reducible repeat (first | refine blk_drewN ?_ _ | refine blk_drew ?_ | refine blk_alloc ?_ _)); refine blk_put (cs := #[.int .i64 t273, .int .i64 t274, .int .i64 t275, .int .i64 0, .int .i64 0, .int .i64 0, .int .i64 0, .int .i64 0]) ?_ 3 _ rfl; (with_reducible repeat (first | refine blk_drewN ?_ _ | refine blk_drew ?_ | refine blk_alloc ?_ _)); refine blk_put (cs := #[.int .i64 t273, .int .i64 t274, .int .i64 0, .int .i64 0, .int .i64 0, .int .i64 0, .int .i64 0, .int .i64 0]) ?_ 2 _ rfl; (with_reducible repeat (first | refine blk_drewN ?_ _ | refine blk_drew ?_ | refine blk_alloc ?_ _)); refine blk_put (cs := #[.int .i64 t273, .int .i64 0, .int .i64 0, .int .i64 0, .int .i64 0, .int .i64 0, .int .i64 0, .int .i64 0]) ?_ 1 _ rfl; (with_reducible repeat (first | refine blk_drewN ?_ _ | refine blk_drew ?_ | refine blk_alloc ?_ _)); refine blk_put (cs := #[.int .i64 0, .int .i64 0, .int .i64 0, .int .i64 0, .int .i64 0, .int .i64 0, .int .i64 0, .int .i64 0]) ?_ 0 _ rfl; (with_reducible repeat (first | refine blk_drewN ?_ _ | refine blk_drew ?_ | refine blk_alloc ?_ _)); exact BK282.out⟩, ⟨by repeat (first | (with_reducible first | exact HB.out | apply below_alloc | apply pw_below_drewN | apply below_drew1 | refine below_set ?_ GE250.out | refine below_set ?_ GE272.out | refine below_set ?_ GE282.out) | exact HB.out)⟩⟩
                    · rw [if_neg c28] at H
                      have c28b0 : decide (1 ≤ (rd l0 x29_1)) = false := decide_eq_false c28
                      clear c28
                      (first | rw [c28b0] | (simp only [i64_w, i32_w]; rw [c28b0]) | skip)
                      have H' := Aside0.mk H
                      clear H
                      go_wp2
                      go_meet
                      case rel => exact ⟨_, (false), (by first | rfl | (simp; done) | (simp [*]; done)), H', ⟨by have := HK1.out; first | omega | exact Nat.le_refl _⟩, ⟨by (with_reducible repeat (first | refine blk_drewN ?_ _ | refine blk_drew ?_ | refine blk_alloc ?_ _)); refine blk_far ?_ NB250_282.out _; (with_reducible repeat (first | refine blk_drewN ?_ _ | refine blk_drew ?_ | refine blk_alloc ?_ _)); refine blk_far ?_ NB250_282.out _; (with_reducible repeat (first | refine blk_drewN ?_ _ | refine blk_drew ?_ | refine blk_alloc ?_ _)); refine blk_far ?_ NB250_282.out _; (with_reducible repeat (first | refine blk_drewN ?_ _ | refine blk_drew ?_ | refine blk_alloc ?_ _)); refine blk_far ?_ NB250_282.out _; (with_reducible repeat (first | refine blk_drewN ?_ _ | refine blk_drew ?_ | refine blk_alloc ?_ _)); refine blk_far ?_ NB250_282.out _; (with_reducible repeat (first | refine blk_drewN ?_ _ | refine blk_drew ?_ | refine blk_alloc ?_ _)); refine blk_far ?_ NB250_282.out _; (with_reducible repeat (first | refine blk_drewN ?_ _ | refine blk_drew ?_ | refine blk_alloc ?_ _)); refine blk_far ?_ NB250_282.out _; (with_reducible repeat (first | refine blk_drewN ?_ _ | refine blk_drew ?_ | refine blk_alloc ?_ _)); refine blk_far ?_ NB250_282.out _; (with_reducible repeat (first | refine blk_drewN ?_ _ | refine blk_drew ?_ | refine blk_alloc ?_ _)); exact BK250.out⟩, ⟨by (with_reducible repeat (first | refine blk_drewN ?_ _ | refine blk_drew ?_ | refine blk_alloc ?_ _)); refine blk_far ?_ NB272_282.out _; (with_reducible repeat (first | refine blk_drewN ?_ _ | refine blk_drew ?_ | refine blk_alloc ?_ _)); refine blk_far ?_ NB272_282.out _; (with_reducible repeat (first | refine blk_drewN ?_ _ | refine blk_drew ?_ | refine blk_alloc ?_ _)); refine blk_far ?_ NB272_282.out _; (with_reducible repeat (first | refine blk_drewN ?_ _ | refine blk_drew ?_ | refine blk_alloc ?_ _)); refine blk_far ?_ NB272_282.out _; (with_reducible repeat (first | refine blk_drewN ?_ _ | refine blk_drew ?_ | refine blk_alloc ?_ _)); refine blk_far ?_ NB272_282.out _; (with_reducible repeat (first | refine blk_drewN ?_ _ | refine blk_drew ?_ | refine blk_alloc ?_ _)); refine blk_far ?_ NB272_282.out _; (with_reducible repeat (first | refine blk_drewN ?_ _ | refine blk_drew ?_ | refine blk_alloc ?_ _)); refine blk_far ?_ NB272_282.out _; (with_reducible repeat (first | refine blk_drewN ?_ _ | refine blk_drew ?_ | refine blk_alloc ?_ _)); refine blk_far ?_ NB272_282.out _; (with_reducible repeat (first | refine blk_drewN ?_ _ | refine blk_drew ?_ | refine blk_alloc ?_ _)); exact BK272.out⟩, ⟨by (with_reducible repeat (first | refine blk_drewN ?_ _ | refine blk_drew ?_ | refine blk_alloc ?_ _)); refine blk_put (cs := #[.int .i64 t273, .int .i64 t274, .int .i64 t275, .int .i64 t276, .int .i64 t277, .int .i64 t278, .int .i64 t279, .int .i64 0]) ?_ 7 _ rfl; (with_reducible repeat (first | refine blk_drewN ?_ _ | refine blk_drew ?_ | refine blk_alloc ?_ _)); refine blk_put (cs := #[.int .i64 t273, .int .i64 t274, .int .i64 t275, .int .i64 t276, .int .i64 t277, .int .i64 t278, .int .i64 0, .int .i64 0]) ?_ 6 _ rfl; (with_reducible repeat (first | refine blk_drewN ?_ _ | refine blk_drew ?_ | refine blk_alloc ?_ _)); refine blk_put (cs := #[.int .i64 t273, .int .i64 t274, .int .i64 t275, .int .i64 t276, .int .i64 t277, .int .i64 0, .int .i64 0, .int .i64 0]) ?_ 5 _ rfl; (with_reducible repeat (first | refine blk_drewN ?_ _ | refine blk_drew ?_ | refine blk_alloc ?_ _)); refine blk_put (cs := #[.int .i64 t273, .int .i64 t274, .int .i64 t275, .int .i64 t276, .int .i64 0, .int .i64 0, .int .i64 0, .int .i64 0]) ?_ 4 _ rfl; (with_reducible repeat (first | refine blk_drewN ?_ _ | refine blk_drew ?_ | refine blk_alloc ?_ _)); refine blk_put (cs := #[.int .i64 t273, .int .i64 t274, .int .i64 t275, .int .i64 0, .int .i64 0, .int .i64 0, .int .i64 0, .int .i64 0]) ?_ 3 _ rfl; (with_reducible repeat (first | refine blk_drewN ?_ _ | refine blk_drew ?_ | refine blk_alloc ?_ _)); refine blk_put (cs := #[.int .i64 t273, .int .i64 t274, .int .i64 0, .int .i64 0, .int .i64 0, .int .i64 0, .int .i64 0, .int .i64 0]) ?_ 2 _ rfl; (with_reducible repeat (first | refine blk_drewN ?_ _ | refine blk_drew ?_ | refine blk_alloc ?_ _)); refine blk_put (cs := #[.int .i64 t273, .int .i64 0, .int .i64 0, .int .i64 0, .int .i64 0, .int .i64 0, .int .i64 0, .int .i64 0]) ?_ 1 _ rfl; (with_reducible repeat (first | refine blk_drewN ?_ _ | refine blk_drew ?_ | refine blk_alloc ?_ _)); refine blk_put (cs := #[.int .i64 0, .int .i64 0, .int .i64 0, .int .i64 0, .int .i64 0, .int .i64 0, .int .i64 0, .int .i64 0]) ?_ 0 _ rfl; (with_reducible repeat (first | refine blk_drewN ?_ _ | refine blk_drew ?_ | refine blk_alloc ?_ _)); exact BK282.out⟩, ⟨by repeat (first | (with_reducible first | exact HB.out | apply below_alloc | apply pw_below_drewN | apply below_drew1 | refine below_set ?_ GE250.out | refine below_set ?_ GE272.out | refine below_set ?_ GE282.out) | exact HB.out)⟩⟩
                  case rest =>
                    clear HC17
                    try clear c1
                    try clear c2
                    try clear p2
                    try clear q2
                    try clear hx2
                    try clear c3
                    try clear c4
                    try clear c4b0
                    try clear c4b1
                    try clear c9
                    try clear c11
                    try clear c11b0
                    try clear c12
                    try clear c12b0
                    try clear c13
                    try clear c13b0
                    try clear c14
                    try clear c15
                    try clear c15b0
                    try clear c15b1
                    try clear c21
                    try clear c25
                    try clear c26
                    try clear p26
                    try clear q26
                    try clear hx26
                    try clear c28
                    try clear c28b0
                    try clear hcz10_0
                    try clear hcz10_1
                    try clear hcz10_2
                    try clear hcz10_3
                    try clear hcz10_4
                    try clear hcz10_5
                    try clear hcz10_6
                    try clear hcz10_7
                    try clear hcz18_0
                    try clear hcz18_1
                    try clear hcz18_2
                    try clear hcz18_3
                    try clear hcz18_4
                    try clear hcz18_5
                    try clear hcz18_6
                    try clear hcz18_7
                    try clear hcz22_0
                    try clear hcz22_1
                    try clear hcz22_2
                    try clear hcz22_3
                    try clear hcz22_4
                    try clear hcz22_5
                    try clear hcz22_6
                    try clear hcz22_7
                    try clear hcz27_0
                    try clear hcz27_1
                    try clear hcz27_2
                    try clear hcz27_3
                    try clear hcz27_4
                    try clear hcz27_5
                    try clear hcz27_6
                    try clear hcz27_7
                    try clear hfz10_0
                    try clear hfz10_1
                    try clear hfz10_2
                    try clear hfz10_3
                    try clear hfz10_4
                    try clear hfz10_5
                    try clear hfz10_6
                    try clear hfz10_7
                    try clear hfz18_0
                    try clear hfz18_1
                    try clear hfz18_2
                    try clear hfz18_3
                    try clear hfz18_4
                    try clear hfz18_5
                    try clear hfz18_6
                    try clear hfz18_7
                    try clear hfz22_0
                    try clear hfz22_1
                    try clear hfz22_2
                    try clear hfz22_3
                    try clear hfz22_4
                    try clear hfz22_5
                    try clear hfz22_6
                    try clear hfz22_7
                    try clear hfz27_0
                    try clear hfz27_1
                    try clear hfz27_2
                    try clear hfz27_3
                    try clear hfz27_4
                    try clear hfz27_5
                    try clear hfz27_6
                    try clear hfz27_7
                    try clear hx262_0
                    try clear p2
                    try clear p262
                    try clear q262
                    obtain ⟨kq, x12_16, rfl, HA, HJ16, BK250, BK272, BK282, HB⟩ := hcut
                    cases kq with
                    | zero => exact absurd HA.out (by simp [contralaw09_ItemRounds.j1])
                    | succ kj16 =>
                      have H := HA.out
                      clear HA
                      simp only [contralaw09_ItemRounds.j1] at H
                      have HC29 := Aside0.mk H
                      clear H
                      go_upto_region 15 with (fail)
                      go_cut [78] (fun v78 wc => ∃ (kq : Nat) (x78_28 : Bool), v78 = .bool x78_28 ∧ Aside0 (contralaw09_ItemRounds.j2 kq x5_1 t281 l0 (l0.length : Int) x29_1 x78_28 t263 t264 t265 t266 t267 t268 t269 t270 t273 t274 t275 t276 t277 t278 t279 t280 = some r) ∧ Aside0 (kq ≤ kj16) ∧ Aside0 (wc.heap[gb250]? = some (.cells #[.int .i64 x251000_1, .int .i64 x251001_1, .int .i64 x251002_1, .int .i64 x251003_1, .int .i64 x251004_1, .int .i64 x251005_1, .int .i64 x251006_1, .int .i64 x251007_1] 25 (0, 0))) ∧ Aside0 (wc.heap[gb272]? = some (.cells #[.int .i64 t263, .int .i64 t264, .int .i64 t265, .int .i64 t266, .int .i64 t267, .int .i64 t268, .int .i64 t269, .int .i64 t270] 25 (0, 0))) ∧ Aside0 (wc.heap[gb282]? = some (.cells #[.int .i64 t273, .int .i64 t274, .int .i64 t275, .int .i64 t276, .int .i64 t277, .int .i64 t278, .int .i64 t279, .int .i64 t280] 25 (0, 0))) ∧ Aside0 (Below w.heap.size w wc))
                      case first =>
                        have H := HC29.out
                        clear HC29
                        by_cases c30 : x12_16 = true
                        · subst c30
                          have H1 : (if ((t281 == 0) != (decide (x5_1 < 3))) = true then (contralaw09_ItemRounds.j2 kj16 x5_1 t281 l0 (l0.length : Int) x29_1 true t263 t264 t265 t266 t267 t268 t269 t270 t273 t274 t275 t276 t277 t278 t279 t280) else (if t281 = 0 then (contralaw09_ItemRounds.j2 kj16 x5_1 t281 l0 (l0.length : Int) x29_1 false t263 t264 t265 t266 t267 t268 t269 t270 t273 t274 t275 t276 t277 t278 t279 t280) else (contralaw09_ItemRounds.j2 kj16 x5_1 t281 l0 (l0.length : Int) x29_1 (t281 != 91) t263 t264 t265 t266 t267 t268 t269 t270 t273 t274 t275 t276 t277 t278 t279 t280))) = some r := by rw [if_pos rfl] at H; exact H
                          clear H
                          have H := H1
                          clear H1
                          by_cases c31 : ((t281 == 0) != (decide (x5_1 < 3))) = true
                          · rw [if_pos c31] at H
                            have c31b0 : ((t281 == 0) != (decide (x5_1 < 3))) = true := c31
                            (try (have c31b1 : decide ((t281 == 0) = (decide (x5_1 < 3))) = false := by simpa using c31))
                            (try (have c31b2 : ((t281 == 0) == (decide (x5_1 < 3))) = false := by simpa using c31))
                            (try (have c31b3 : ¬ ((t281 == 0) = (decide (x5_1 < 3))) := by simpa using c31))
                            clear c31
                            (first | rw [c31b0] | (simp only [i64_w, i32_w]; rw [c31b0]) | skip)
                            have H' := Aside0.mk H
                            clear H
                            go_wp2
                            go_meet
                            case rel => exact ⟨_, (true), (by first | rfl | (simp; done) | (simp [*]; done)), H', ⟨by have := HK1.out; have := HJ16.out; first | omega | exact Nat.le_refl _⟩, ⟨by (with_reducible repeat (first | refine blk_drewN ?_ _ | refine blk_drew ?_ | refine blk_alloc ?_ _)); exact BK250.out⟩, ⟨by (with_reducible repeat (first | refine blk_drewN ?_ _ | refine blk_drew ?_ | refine blk_alloc ?_ _)); exact BK272.out⟩, ⟨by (with_reducible repeat (first | refine blk_drewN ?_ _ | refine blk_drew ?_ | refine blk_alloc ?_ _)); exact BK282.out⟩, ⟨by repeat (first | (with_reducible first | exact HB.out | apply below_alloc | apply pw_below_drewN | apply below_drew1 | refine below_set ?_ GE250.out | refine below_set ?_ GE272.out | refine below_set ?_ GE282.out) | exact HB.out)⟩⟩
                          · rw [if_neg c31] at H
                            have c31b0 : ((t281 == 0) != (decide (x5_1 < 3))) = false := by simpa using c31
                            (try (have c31b1 : decide ((t281 == 0) = (decide (x5_1 < 3))) = true := by simpa using c31))
                            (try (have c31b2 : ((t281 == 0) == (decide (x5_1 < 3))) = true := by simpa using c31))
                            clear c31
                            (first | rw [c31b0] | (simp only [i64_w, i32_w]; rw [c31b0]) | skip)
                            by_cases c32 : t281 = 0
                            · rw [if_pos c32] at H
                              have c32b0 : (t281 == 0) = true := beq_iff_eq.mpr c32
                              have c32b0x : decide (x5_1 < 3) = true := by simpa [c32b0] using c31b0
                              have c32b0y : (x5_1 < 3) := by simpa using c32b0x
                              have c32b1 : (t281 != 0) = false := bne_eq_false_iff_eq.mpr c32
                              clear c32
                              have H' := Aside0.mk H
                              clear H
                              go_wp2
                              go_meet
                              case rel => exact ⟨_, (false), (by first | rfl | (simp; done) | (simp [*]; done)), H', ⟨by have := HK1.out; have := HJ16.out; first | omega | exact Nat.le_refl _⟩, ⟨by (with_reducible repeat (first | refine blk_drewN ?_ _ | refine blk_drew ?_ | refine blk_alloc ?_ _)); exact BK250.out⟩, ⟨by (with_reducible repeat (first | refine blk_drewN ?_ _ | refine blk_drew ?_ | refine blk_alloc ?_ _)); exact BK272.out⟩, ⟨by (with_reducible repeat (first | refine blk_drewN ?_ _ | refine blk_drew ?_ | refine blk_alloc ?_ _)); exact BK282.out⟩, ⟨by repeat (first | (with_reducible first | exact HB.out | apply below_alloc | apply pw_below_drewN | apply below_drew1 | refine below_set ?_ GE250.out | refine below_set ?_ GE272.out | refine below_set ?_ GE282.out) | exact HB.out)⟩⟩
                            · rw [if_neg c32] at H
                              have c32b0 : (t281 == 0) = false := beq_eq_false_iff_ne.mpr c32
                              have c32b0x : decide (x5_1 < 3) = false := by simpa [c32b0] using c31b0
                              have c32b0y : ¬ (x5_1 < 3) := by simpa using c32b0x
                              have c32b1 : (t281 != 0) = true := bne_iff_ne.mpr c32
                              have H' := Aside0.mk H
                              clear H
                              go_wp2
                              go_meet
                              case rel => exact ⟨_, ((t281 != 91)), (by first | rfl | (simp; done) | (simp [*]; done)), H', ⟨by have := HK1.out; have := HJ16.out; first | omega | exact Nat.le_refl _⟩, ⟨by (with_reducible repeat (first | refine blk_drewN ?_ _ | refine blk_drew ?_ | refine blk_alloc ?_ _)); exact BK250.out⟩, ⟨by (with_reducible repeat (first | refine blk_drewN ?_ _ | refine blk_drew ?_ | refine blk_alloc ?_ _)); exact BK272.out⟩, ⟨by (with_reducible repeat (first | refine blk_drewN ?_ _ | refine blk_drew ?_ | refine blk_alloc ?_ _)); exact BK282.out⟩, ⟨by repeat (first | (with_reducible first | exact HB.out | apply below_alloc | apply pw_below_drewN | apply below_drew1 | refine below_set ?_ GE250.out | refine below_set ?_ GE272.out | refine below_set ?_ GE282.out) | exact HB.out)⟩⟩
                        · replace c30 := Bool.eq_false_iff.mpr c30
                          subst c30
                          have H1 : (if t281 = 1 then (contralaw09_ItemRounds.j2 kj16 x5_1 t281 l0 (l0.length : Int) x29_1 false t263 t264 t265 t266 t267 t268 t269 t270 t273 t274 t275 t276 t277 t278 t279 t280) else (contralaw09_ItemRounds.j2 kj16 x5_1 t281 l0 (l0.length : Int) x29_1 true t263 t264 t265 t266 t267 t268 t269 t270 t273 t274 t275 t276 t277 t278 t279 t280)) = some r := by rw [if_neg (show ¬ (false = true) by decide)] at H; exact H
                          clear H
                          have H := H1
                          clear H1
                          by_cases c33 : t281 = 1
                          · rw [if_pos c33] at H
                            have c33b0 : (t281 == 1) = true := beq_iff_eq.mpr c33
                            have c33b1 : (t281 != 1) = false := bne_eq_false_iff_eq.mpr c33
                            clear c33
                            have H' := Aside0.mk H
                            clear H
                            go_wp2
                            go_meet
                            case rel => exact ⟨_, (false), (by first | rfl | (simp; done) | (simp [*]; done)), H', ⟨by have := HK1.out; have := HJ16.out; first | omega | exact Nat.le_refl _⟩, ⟨by (with_reducible repeat (first | refine blk_drewN ?_ _ | refine blk_drew ?_ | refine blk_alloc ?_ _)); exact BK250.out⟩, ⟨by (with_reducible repeat (first | refine blk_drewN ?_ _ | refine blk_drew ?_ | refine blk_alloc ?_ _)); exact BK272.out⟩, ⟨by (with_reducible repeat (first | refine blk_drewN ?_ _ | refine blk_drew ?_ | refine blk_alloc ?_ _)); exact BK282.out⟩, ⟨by repeat (first | (with_reducible first | exact HB.out | apply below_alloc | apply pw_below_drewN | apply below_drew1 | refine below_set ?_ GE250.out | refine below_set ?_ GE272.out | refine below_set ?_ GE282.out) | exact HB.out)⟩⟩
                          · rw [if_neg c33] at H
                            have c33b0 : (t281 == 1) = false := beq_eq_false_iff_ne.mpr c33
                            have c33b1 : (t281 != 1) = true := bne_iff_ne.mpr c33
                            have H' := Aside0.mk H
                            clear H
                            go_wp2
                            go_meet
                            case rel => exact ⟨_, (true), (by first | rfl | (simp; done) | (simp [*]; done)), H', ⟨by have := HK1.out; have := HJ16.out; first | omega | exact Nat.le_refl _⟩, ⟨by (with_reducible repeat (first | refine blk_drewN ?_ _ | refine blk_drew ?_ | refine blk_alloc ?_ _)); exact BK250.out⟩, ⟨by (with_reducible repeat (first | refine blk_drewN ?_ _ | refine blk_drew ?_ | refine blk_alloc ?_ _)); exact BK272.out⟩, ⟨by (with_reducible repeat (first | refine blk_drewN ?_ _ | refine blk_drew ?_ | refine blk_alloc ?_ _)); exact BK282.out⟩, ⟨by repeat (first | (with_reducible first | exact HB.out | apply below_alloc | apply pw_below_drewN | apply below_drew1 | refine below_set ?_ GE250.out | refine below_set ?_ GE272.out | refine below_set ?_ GE282.out) | exact HB.out)⟩⟩
                      case rest =>
                        clear HC29
                        try clear c1
                        try clear c2
                        try clear p2
                        try clear q2
                        try clear hx2
                        try clear c3
                        try clear c4
                        try clear c4b0
                        try clear c4b1
                        try clear c9
                        try clear c11
                        try clear c11b0
                        try clear c12
                        try clear c12b0
                        try clear c13
                        try clear c13b0
                        try clear c14
                        try clear c15
                        try clear c15b0
                        try clear c15b1
                        try clear c21
                        try clear c25
                        try clear c26
                        try clear p26
                        try clear q26
                        try clear hx26
                        try clear c28
                        try clear c28b0
                        try clear c30
                        try clear c31
                        try clear c31b0
                        try clear c31b1
                        try clear c31b2
                        try clear c32
                        try clear c32b0
                        try clear c32b1
                        try clear c33
                        try clear c33b0
                        try clear c33b1
                        try clear hcz10_0
                        try clear hcz10_1
                        try clear hcz10_2
                        try clear hcz10_3
                        try clear hcz10_4
                        try clear hcz10_5
                        try clear hcz10_6
                        try clear hcz10_7
                        try clear hcz18_0
                        try clear hcz18_1
                        try clear hcz18_2
                        try clear hcz18_3
                        try clear hcz18_4
                        try clear hcz18_5
                        try clear hcz18_6
                        try clear hcz18_7
                        try clear hcz22_0
                        try clear hcz22_1
                        try clear hcz22_2
                        try clear hcz22_3
                        try clear hcz22_4
                        try clear hcz22_5
                        try clear hcz22_6
                        try clear hcz22_7
                        try clear hcz27_0
                        try clear hcz27_1
                        try clear hcz27_2
                        try clear hcz27_3
                        try clear hcz27_4
                        try clear hcz27_5
                        try clear hcz27_6
                        try clear hcz27_7
                        try clear hfz10_0
                        try clear hfz10_1
                        try clear hfz10_2
                        try clear hfz10_3
                        try clear hfz10_4
                        try clear hfz10_5
                        try clear hfz10_6
                        try clear hfz10_7
                        try clear hfz18_0
                        try clear hfz18_1
                        try clear hfz18_2
                        try clear hfz18_3
                        try clear hfz18_4
                        try clear hfz18_5
                        try clear hfz18_6
                        try clear hfz18_7
                        try clear hfz22_0
                        try clear hfz22_1
                        try clear hfz22_2
                        try clear hfz22_3
                        try clear hfz22_4
                        try clear hfz22_5
                        try clear hfz22_6
                        try clear hfz22_7
                        try clear hfz27_0
                        try clear hfz27_1
                        try clear hfz27_2
                        try clear hfz27_3
                        try clear hfz27_4
                        try clear hfz27_5
                        try clear hfz27_6
                        try clear hfz27_7
                        try clear hx262_0
                        try clear p2
                        try clear p26
                        try clear p262
                        try clear q2
                        try clear q26
                        try clear q262
                        obtain ⟨kq, x78_28, rfl, HA, HJ28, BK250, BK272, BK282, HB⟩ := hcut
                        cases kq with
                        | zero => exact absurd HA.out (by simp [contralaw09_ItemRounds.j2])
                        | succ kj28 =>
                          have H := HA.out
                          clear HA
                          simp only [contralaw09_ItemRounds.j2] at H
                          by_cases c34 : x78_28 = true
                          · subst c34
                            have H1 : (some false) = some r := by rw [if_pos rfl] at H; exact H
                            clear H
                            have H := H1
                            clear H1
                            exact absurd ((Option.some.inj H).trans hT.out) (by decide)
                          · replace c34 := Bool.eq_false_iff.mpr c34
                            subst c34
                            have H1 : (if t281 = 0 then (contralaw09_ItemRounds.l0 kj28 (wrap64 (x5_1 + 1)) l0 (l0.length : Int) (wrap64 (x29_1 + 1)) t273 t274 t275 t276 t277 t278 t279 t280) else ((item_Cancel.f t273 t274 t275 t276 t277 t278 t279 t280).bind fun bt283 => (if bt283.2.2.2.2.2.2.2.2 = 0 then ((item_Over.f bt283.1 bt283.2.1 bt283.2.2.1 bt283.2.2.2.1 bt283.2.2.2.2.1 bt283.2.2.2.2.2.1 bt283.2.2.2.2.2.2.1 bt283.2.2.2.2.2.2.2.1).bind fun t293 => (if t293 = true then (some ((t273 == t263 && (t274 == t264)) && (t275 == t265 && (t276 == t266 && (t277 == t267 && (t278 == t268 && (t279 == t269 && (t280 == t270)))))))) else (some false))) else (some false)))) = some r := by rw [if_neg (show ¬ (false = true) by decide)] at H; exact H
                            clear H
                            have H := H1
                            clear H1
                            by_cases c35 : t281 = 0
                            · rw [if_pos c35] at H
                              have c35b0 : (t281 == 0) = true := beq_iff_eq.mpr c35
                              have c35b1 : (t281 != 0) = false := bne_eq_false_iff_eq.mpr c35
                              clear c35
                              have H' := Aside0.mk H
                              clear H
                              have hnb36 := NB282_250.out
                              have hnc36 := NB250_282.out
                              have hnb37 := NB282_272.out
                              have hnc37 := NB272_282.out
                              have hcz38_0 : wc.cell? ⟨gb282, 0, none⟩ = some (.int .i64 t273) := (blk_cell BK282.out 0).trans rfl
                              have hcz38_1 : wc.cell? ⟨gb282, 1, none⟩ = some (.int .i64 t274) := (blk_cell BK282.out 1).trans rfl
                              have hcz38_2 : wc.cell? ⟨gb282, 2, none⟩ = some (.int .i64 t275) := (blk_cell BK282.out 2).trans rfl
                              have hcz38_3 : wc.cell? ⟨gb282, 3, none⟩ = some (.int .i64 t276) := (blk_cell BK282.out 3).trans rfl
                              have hcz38_4 : wc.cell? ⟨gb282, 4, none⟩ = some (.int .i64 t277) := (blk_cell BK282.out 4).trans rfl
                              have hcz38_5 : wc.cell? ⟨gb282, 5, none⟩ = some (.int .i64 t278) := (blk_cell BK282.out 5).trans rfl
                              have hcz38_6 : wc.cell? ⟨gb282, 6, none⟩ = some (.int .i64 t279) := (blk_cell BK282.out 6).trans rfl
                              have hcz38_7 : wc.cell? ⟨gb282, 7, none⟩ = some (.int .i64 t280) := (blk_cell BK282.out 7).trans rfl
                              have hfz38_0 := blk_frozen BK282.out 0
                              have hfz38_1 := blk_frozen BK282.out 1
                              have hfz38_2 := blk_frozen BK282.out 2
                              have hfz38_3 := blk_frozen BK282.out 3
                              have hfz38_4 := blk_frozen BK282.out 4
                              have hfz38_5 := blk_frozen BK282.out 5
                              have hfz38_6 := blk_frozen BK282.out 6
                              have hfz38_7 := blk_frozen BK282.out 7
                              have hnb39 := NB250_272.out
                              have hnc39 := NB272_250.out
                              have hcz40_0 : wc.cell? ⟨gb250, 0, none⟩ = some (.int .i64 x251000_1) := (blk_cell BK250.out 0).trans rfl
                              have hcz40_1 : wc.cell? ⟨gb250, 1, none⟩ = some (.int .i64 x251001_1) := (blk_cell BK250.out 1).trans rfl
                              have hcz40_2 : wc.cell? ⟨gb250, 2, none⟩ = some (.int .i64 x251002_1) := (blk_cell BK250.out 2).trans rfl
                              have hcz40_3 : wc.cell? ⟨gb250, 3, none⟩ = some (.int .i64 x251003_1) := (blk_cell BK250.out 3).trans rfl
                              have hcz40_4 : wc.cell? ⟨gb250, 4, none⟩ = some (.int .i64 x251004_1) := (blk_cell BK250.out 4).trans rfl
                              have hcz40_5 : wc.cell? ⟨gb250, 5, none⟩ = some (.int .i64 x251005_1) := (blk_cell BK250.out 5).trans rfl
                              have hcz40_6 : wc.cell? ⟨gb250, 6, none⟩ = some (.int .i64 x251006_1) := (blk_cell BK250.out 6).trans rfl
                              have hcz40_7 : wc.cell? ⟨gb250, 7, none⟩ = some (.int .i64 x251007_1) := (blk_cell BK250.out 7).trans rfl
                              have hfz40_0 := blk_frozen BK250.out 0
                              have hfz40_1 := blk_frozen BK250.out 1
                              have hfz40_2 := blk_frozen BK250.out 2
                              have hfz40_3 := blk_frozen BK250.out 3
                              have hfz40_4 := blk_frozen BK250.out 4
                              have hfz40_5 := blk_frozen BK250.out 5
                              have hfz40_6 := blk_frozen BK250.out 6
                              have hfz40_7 := blk_frozen BK250.out 7
                              go_wp2
                              go_roundg kj28
                              case measure => have := HK1.out; have := HJ16.out; have := HJ28.out; omega
                              case rel => exact ⟨(wrap64 (x5_1 + 1)), (wrap64 (x29_1 + 1)), (t273), (t274), (t275), (t276), (t277), (t278), (t279), (t280), (by first | rfl | (simp; done) | (simp [*]; done)), (by first | rfl | (simp; done) | (simp [*]; done)), H', ⟨by have := HK1.out; have := HJ16.out; have := HJ28.out; omega⟩, ⟨by (with_reducible repeat (first | refine blk_drewN ?_ _ | refine blk_drew ?_ | refine blk_alloc ?_ _)); refine blk_put (cs := #[.int .i64 t273, .int .i64 t274, .int .i64 t275, .int .i64 t276, .int .i64 t277, .int .i64 t278, .int .i64 t279, .int .i64 x251007_1]) ?_ 7 _ rfl; (with_reducible repeat (first | refine blk_drewN ?_ _ | refine blk_drew ?_ | refine blk_alloc ?_ _)); refine blk_put (cs := #[.int .i64 t273, .int .i64 t274, .int .i64 t275, .int .i64 t276, .int .i64 t277, .int .i64 t278, .int .i64 x251006_1, .int .i64 x251007_1]) ?_ 6 _ rfl; (with_reducible repeat (first | refine blk_drewN ?_ _ | refine blk_drew ?_ | refine blk_alloc ?_ _)); refine blk_put (cs := #[.int .i64 t273, .int .i64 t274, .int .i64 t275, .int .i64 t276, .int .i64 t277, .int .i64 x251005_1, .int .i64 x251006_1, .int .i64 x251007_1]) ?_ 5 _ rfl; (with_reducible repeat (first | refine blk_drewN ?_ _ | refine blk_drew ?_ | refine blk_alloc ?_ _)); refine blk_put (cs := #[.int .i64 t273, .int .i64 t274, .int .i64 t275, .int .i64 t276, .int .i64 x251004_1, .int .i64 x251005_1, .int .i64 x251006_1, .int .i64 x251007_1]) ?_ 4 _ rfl; (with_reducible repeat (first | refine blk_drewN ?_ _ | refine blk_drew ?_ | refine blk_alloc ?_ _)); refine blk_put (cs := #[.int .i64 t273, .int .i64 t274, .int .i64 t275, .int .i64 x251003_1, .int .i64 x251004_1, .int .i64 x251005_1, .int .i64 x251006_1, .int .i64 x251007_1]) ?_ 3 _ rfl; (with_reducible repeat (first | refine blk_drewN ?_ _ | refine blk_drew ?_ | refine blk_alloc ?_ _)); refine blk_put (cs := #[.int .i64 t273, .int .i64 t274, .int .i64 x251002_1, .int .i64 x251003_1, .int .i64 x251004_1, .int .i64 x251005_1, .int .i64 x251006_1, .int .i64 x251007_1]) ?_ 2 _ rfl; (with_reducible repeat (first | refine blk_drewN ?_ _ | refine blk_drew ?_ | refine blk_alloc ?_ _)); refine blk_put (cs := #[.int .i64 t273, .int .i64 x251001_1, .int .i64 x251002_1, .int .i64 x251003_1, .int .i64 x251004_1, .int .i64 x251005_1, .int .i64 x251006_1, .int .i64 x251007_1]) ?_ 1 _ rfl; (with_reducible repeat (first | refine blk_drewN ?_ _ | refine blk_drew ?_ | refine blk_alloc ?_ _)); refine blk_put (cs := #[.int .i64 x251000_1, .int .i64 x251001_1, .int .i64 x251002_1, .int .i64 x251003_1, .int .i64 x251004_1, .int .i64 x251005_1, .int .i64 x251006_1, .int .i64 x251007_1]) ?_ 0 _ rfl; (with_reducible repeat (first | refine blk_drewN ?_ _ | refine blk_drew ?_ | refine blk_alloc ?_ _)); exact BK250.out⟩, ⟨by repeat (first | (with_reducible first | exact HB.out | apply below_alloc | apply pw_below_drewN | apply below_drew1 | refine below_set ?_ GE250.out | refine below_set ?_ GE272.out | refine below_set ?_ GE282.out) | exact HB.out)⟩⟩
                            · rw [if_neg c35] at H
                              have c35b0 : (t281 == 0) = false := beq_eq_false_iff_ne.mpr c35
                              have c35b1 : (t281 != 0) = true := bne_iff_ne.mpr c35
                              replace H := Option.bind_eq_some_iff.mp H
                              obtain ⟨⟨t283, t284, t285, t286, t287, t288, t289, t290, t291⟩, A410, H⟩ := H
                              replace H : (if t291 = 0 then ((item_Over.f t283 t284 t285 t286 t287 t288 t289 t290).bind fun t293 => (if t293 = true then (some ((t273 == t263 && (t274 == t264)) && (t275 == t265 && (t276 == t266 && (t277 == t267 && (t278 == t268 && (t279 == t269 && (t280 == t270)))))))) else (some false))) else (some false)) = some r := H
                              have A41 := Aside0.mk A410
                              clear A410
                              by_cases c42 : t291 = 0
                              · rw [if_pos c42] at H
                                have c42b0 : (t291 == 0) = true := beq_iff_eq.mpr c42
                                have c42b1 : (t291 != 0) = false := bne_eq_false_iff_eq.mpr c42
                                clear c42
                                replace H := Option.bind_eq_some_iff.mp H
                                obtain ⟨t293, A430, H⟩ := H
                                replace H : (if t293 = true then (some ((t273 == t263 && (t274 == t264)) && (t275 == t265 && (t276 == t266 && (t277 == t267 && (t278 == t268 && (t279 == t269 && (t280 == t270)))))))) else (some false)) = some r := H
                                have A43 := Aside0.mk A430
                                clear A430
                                by_cases c44 : t293 = true
                                · subst c44
                                  have H1 : (some ((t273 == t263 && (t274 == t264)) && (t275 == t265 && (t276 == t266 && (t277 == t267 && (t278 == t268 && (t279 == t269 && (t280 == t270)))))))) = some r := by rw [if_pos rfl] at H; exact H
                                  clear H
                                  have H := H1
                                  clear H1
                                  obtain rfl := Option.some.inj H
                                  have hnb45 := NB282_250.out
                                  have hnc45 := NB250_282.out
                                  have hnb46 := NB282_272.out
                                  have hnc46 := NB272_282.out
                                  have hcz47_0 : wc.cell? ⟨gb282, 0, none⟩ = some (.int .i64 t273) := (blk_cell BK282.out 0).trans rfl
                                  have hcz47_1 : wc.cell? ⟨gb282, 1, none⟩ = some (.int .i64 t274) := (blk_cell BK282.out 1).trans rfl
                                  have hcz47_2 : wc.cell? ⟨gb282, 2, none⟩ = some (.int .i64 t275) := (blk_cell BK282.out 2).trans rfl
                                  have hcz47_3 : wc.cell? ⟨gb282, 3, none⟩ = some (.int .i64 t276) := (blk_cell BK282.out 3).trans rfl
                                  have hcz47_4 : wc.cell? ⟨gb282, 4, none⟩ = some (.int .i64 t277) := (blk_cell BK282.out 4).trans rfl
                                  have hcz47_5 : wc.cell? ⟨gb282, 5, none⟩ = some (.int .i64 t278) := (blk_cell BK282.out 5).trans rfl
                                  have hcz47_6 : wc.cell? ⟨gb282, 6, none⟩ = some (.int .i64 t279) := (blk_cell BK282.out 6).trans rfl
                                  have hcz47_7 : wc.cell? ⟨gb282, 7, none⟩ = some (.int .i64 t280) := (blk_cell BK282.out 7).trans rfl
                                  have hfz47_0 := blk_frozen BK282.out 0
                                  have hfz47_1 := blk_frozen BK282.out 1
                                  have hfz47_2 := blk_frozen BK282.out 2
                                  have hfz47_3 := blk_frozen BK282.out 3
                                  have hfz47_4 := blk_frozen BK282.out 4
                                  have hfz47_5 := blk_frozen BK282.out 5
                                  have hfz47_6 := blk_frozen BK282.out 6
                                  have hfz47_7 := blk_frozen BK282.out 7
                                  go_wp2_with (first | ((with_reducible refine gate_callee (f := 15) rfl ?_); refine goesL_ (some 83) rfl rfl Try.func15 (by kernel_rfl) rfl #[.agg #[.int .i64 t273, .int .i64 t274, .int .i64 t275, .int .i64 t276, .int .i64 t277, .int .i64 t278, .int .i64 t279, .int .i64 t280]] rfl (by (try simp only [List.map_toArray, List.map_cons, List.map_nil]); first | done | rfl | (simp only [List.length_drop, List.length_take]; rfl)) ?_; (with_reducible refine (item_Cancel.calls t273 t274 t275 t276 t277 t278 t279 t280 t283 t284 t285 t286 t287 t288 t289 t290 t291 _ A41.out).mono ?_); rintro e w48 ⟨rfl, hb⟩; refine ⟨_, rfl, ?_⟩; have n0_ := Aside0.mk (blk_below (g := gb250) (o := .cells #[.int .i64 x251000_1, .int .i64 x251001_1, .int .i64 x251002_1, .int .i64 x251003_1, .int .i64 x251004_1, .int .i64 x251005_1, .int .i64 x251006_1, .int .i64 x251007_1] 25 (0, 0)) (by (with_reducible repeat (first | refine blk_drewN ?_ _ | refine blk_drew ?_ | refine blk_alloc ?_ _)); exact BK250.out) hb); have n1_ := Aside0.mk (blk_below (g := gb272) (o := .cells #[.int .i64 t263, .int .i64 t264, .int .i64 t265, .int .i64 t266, .int .i64 t267, .int .i64 t268, .int .i64 t269, .int .i64 t270] 25 (0, 0)) (by (with_reducible repeat (first | refine blk_drewN ?_ _ | refine blk_drew ?_ | refine blk_alloc ?_ _)); exact BK272.out) hb); have n2_ := Aside0.mk (blk_below (g := gb282) (o := .cells #[.int .i64 t273, .int .i64 t274, .int .i64 t275, .int .i64 t276, .int .i64 t277, .int .i64 t278, .int .i64 t279, .int .i64 t280] 25 (0, 0)) (by (with_reducible repeat (first | refine blk_drewN ?_ _ | refine blk_drew ?_ | refine blk_alloc ?_ _)); exact BK282.out) hb); have n3_ := Aside0.mk (below_step (by repeat (first | (with_reducible first | exact HB.out | apply below_alloc | apply pw_below_drewN | apply below_drew1 | refine below_set ?_ GE250.out | refine below_set ?_ GE272.out | refine below_set ?_ GE282.out) | exact HB.out)) hb); clear BK250; clear BK272; clear BK282; clear HB; have BK250 := n0_; have BK272 := n1_; have BK282 := n2_; have HB := n3_; clear n0_ n1_ n2_ n3_; (try clear hb); (try clear hb2); (try clear hk); (try clear hi)) | ((with_reducible refine gate_dst (N := 13) rfl ?_); refine box_event ?hg (N := 13) ?hd (cs := #[.int .i64 0, .int .i64 0, .int .i64 0, .int .i64 0, .int .i64 0, .int .i64 0, .int .i64 0, .int .i64 0]) (t := 25) ?hr ?_; (case hd => rfl); (case hg => rfl); (case hr => first | (go_simp; done) | (go_simp; rfl)); intro gb292 hg w49 hbox hb; have n0_ := Aside0.mk (blk_below (g := gb250) (o := .cells #[.int .i64 x251000_1, .int .i64 x251001_1, .int .i64 x251002_1, .int .i64 x251003_1, .int .i64 x251004_1, .int .i64 x251005_1, .int .i64 x251006_1, .int .i64 x251007_1] 25 (0, 0)) (by (with_reducible repeat (first | refine blk_drewN ?_ _ | refine blk_drew ?_ | refine blk_alloc ?_ _)); exact BK250.out) hb); have n1_ := Aside0.mk (blk_below (g := gb272) (o := .cells #[.int .i64 t263, .int .i64 t264, .int .i64 t265, .int .i64 t266, .int .i64 t267, .int .i64 t268, .int .i64 t269, .int .i64 t270] 25 (0, 0)) (by (with_reducible repeat (first | refine blk_drewN ?_ _ | refine blk_drew ?_ | refine blk_alloc ?_ _)); exact BK272.out) hb); have n2_ := Aside0.mk (blk_below (g := gb282) (o := .cells #[.int .i64 t273, .int .i64 t274, .int .i64 t275, .int .i64 t276, .int .i64 t277, .int .i64 t278, .int .i64 t279, .int .i64 t280] 25 (0, 0)) (by (with_reducible repeat (first | refine blk_drewN ?_ _ | refine blk_drew ?_ | refine blk_alloc ?_ _)); exact BK282.out) hb); have n3_ := Aside0.mk (below_step (by repeat (first | (with_reducible first | exact HB.out | apply below_alloc | apply pw_below_drewN | apply below_drew1 | refine below_set ?_ GE250.out | refine below_set ?_ GE272.out | refine below_set ?_ GE282.out) | exact HB.out)) hb); have n4_ := Aside0.mk (hbox); have n5_ := Aside0.mk ((by rw [hg]; exact (below_size (by repeat (first | (with_reducible first | exact HB.out | apply below_alloc | apply pw_below_drewN | apply below_drew1 | refine below_set ?_ GE250.out | refine below_set ?_ GE272.out | refine below_set ?_ GE282.out) | exact HB.out))) : w.heap.size ≤ gb292)); have n6_ := Aside0.mk ((by rw [hg]; exact (below_size (by repeat (first | (with_reducible first | exact HB.out | apply below_alloc | apply pw_below_drewN | apply below_drew1 | refine below_set ?_ GE250.out | refine below_set ?_ GE272.out | refine below_set ?_ GE282.out) | exact HB.out))) : w.heap.size ≤ gb292)); have n7_ := Aside0.mk ((by rw [hg]; exact Nat.ne_of_lt (blk_lt (g := gb250) (o := .cells #[.int .i64 x251000_1, .int .i64 x251001_1, .int .i64 x251002_1, .int .i64 x251003_1, .int .i64 x251004_1, .int .i64 x251005_1, .int .i64 x251006_1, .int .i64 x251007_1] 25 (0, 0)) (by (with_reducible repeat (first | refine blk_drewN ?_ _ | refine blk_drew ?_ | refine blk_alloc ?_ _)); exact BK250.out)) : gb250 ≠ gb292)); have n8_ := Aside0.mk ((by rw [hg]; exact Nat.ne_of_gt (blk_lt (g := gb250) (o := .cells #[.int .i64 x251000_1, .int .i64 x251001_1, .int .i64 x251002_1, .int .i64 x251003_1, .int .i64 x251004_1, .int .i64 x251005_1, .int .i64 x251006_1, .int .i64 x251007_1] 25 (0, 0)) (by (with_reducible repeat (first | refine blk_drewN ?_ _ | refine blk_drew ?_ | refine blk_alloc ?_ _)); exact BK250.out)) : gb292 ≠ gb250)); have n9_ := Aside0.mk ((by rw [hg]; exact Nat.ne_of_lt (blk_lt (g := gb272) (o := .cells #[.int .i64 t263, .int .i64 t264, .int .i64 t265, .int .i64 t266, .int .i64 t267, .int .i64 t268, .int .i64 t269, .int .i64 t270] 25 (0, 0)) (by (with_reducible repeat (first | refine blk_drewN ?_ _ | refine blk_drew ?_ | refine blk_alloc ?_ _)); exact BK272.out)) : gb272 ≠ gb292)); have n10_ := Aside0.mk ((by rw [hg]; exact Nat.ne_of_gt (blk_lt (g := gb272) (o := .cells #[.int .i64 t263, .int .i64 t264, .int .i64 t265, .int .i64 t266, .int .i64 t267, .int .i64 t268, .int .i64 t269, .int .i64 t270] 25 (0, 0)) (by (with_reducible repeat (first | refine blk_drewN ?_ _ | refine blk_drew ?_ | refine blk_alloc ?_ _)); exact BK272.out)) : gb292 ≠ gb272)); have n11_ := Aside0.mk ((by rw [hg]; exact Nat.ne_of_lt (blk_lt (g := gb282) (o := .cells #[.int .i64 t273, .int .i64 t274, .int .i64 t275, .int .i64 t276, .int .i64 t277, .int .i64 t278, .int .i64 t279, .int .i64 t280] 25 (0, 0)) (by (with_reducible repeat (first | refine blk_drewN ?_ _ | refine blk_drew ?_ | refine blk_alloc ?_ _)); exact BK282.out)) : gb282 ≠ gb292)); have n12_ := Aside0.mk ((by rw [hg]; exact Nat.ne_of_gt (blk_lt (g := gb282) (o := .cells #[.int .i64 t273, .int .i64 t274, .int .i64 t275, .int .i64 t276, .int .i64 t277, .int .i64 t278, .int .i64 t279, .int .i64 t280] 25 (0, 0)) (by (with_reducible repeat (first | refine blk_drewN ?_ _ | refine blk_drew ?_ | refine blk_alloc ?_ _)); exact BK282.out)) : gb292 ≠ gb282)); clear BK250; clear BK272; clear BK282; clear HB; have BK250 := n0_; have BK272 := n1_; have BK282 := n2_; have HB := n3_; have BK292 := n4_; have GW292 := n5_; have GE292 := n6_; have NB250_292 := n7_; have NB292_250 := n8_; have NB272_292 := n9_; have NB292_272 := n10_; have NB282_292 := n11_; have NB292_282 := n12_; clear n0_ n1_ n2_ n3_ n4_ n5_ n6_ n7_ n8_ n9_ n10_ n11_ n12_; clear hb hbox hg; have hnb50 := NB292_250.out; have hnc50 := NB250_292.out; have hnb51 := NB292_272.out; have hnc51 := NB272_292.out; have hnb52 := NB292_282.out; have hnc52 := NB282_292.out; have hcz53_0 : w49.cell? ⟨gb292, 0, none⟩ = some (.int .i64 0) := (blk_cell BK292.out 0).trans rfl; have hcz53_1 : w49.cell? ⟨gb292, 1, none⟩ = some (.int .i64 0) := (blk_cell BK292.out 1).trans rfl; have hcz53_2 : w49.cell? ⟨gb292, 2, none⟩ = some (.int .i64 0) := (blk_cell BK292.out 2).trans rfl; have hcz53_3 : w49.cell? ⟨gb292, 3, none⟩ = some (.int .i64 0) := (blk_cell BK292.out 3).trans rfl; have hcz53_4 : w49.cell? ⟨gb292, 4, none⟩ = some (.int .i64 0) := (blk_cell BK292.out 4).trans rfl; have hcz53_5 : w49.cell? ⟨gb292, 5, none⟩ = some (.int .i64 0) := (blk_cell BK292.out 5).trans rfl; have hcz53_6 : w49.cell? ⟨gb292, 6, none⟩ = some (.int .i64 0) := (blk_cell BK292.out 6).trans rfl; have hcz53_7 : w49.cell? ⟨gb292, 7, none⟩ = some (.int .i64 0) := (blk_cell BK292.out 7).trans rfl; have hfz53_0 := blk_frozen BK292.out 0; have hfz53_1 := blk_frozen BK292.out 1; have hfz53_2 := blk_frozen BK292.out 2; have hfz53_3 := blk_frozen BK292.out 3; have hfz53_4 := blk_frozen BK292.out 4; have hfz53_5 := blk_frozen BK292.out 5; have hfz53_6 := blk_frozen BK292.out 6; have hfz53_7 := blk_frozen BK292.out 7) | (go_at_call 16; (with_reducible refine (item_Over.calls t283 t284 t285 t286 t287 t288 t289 t290 true _ A43.out).mono ?_); rintro e w54 ⟨rfl, hb⟩; have n0_ := Aside0.mk (blk_below (g := gb250) (o := .cells #[.int .i64 x251000_1, .int .i64 x251001_1, .int .i64 x251002_1, .int .i64 x251003_1, .int .i64 x251004_1, .int .i64 x251005_1, .int .i64 x251006_1, .int .i64 x251007_1] 25 (0, 0)) (by (with_reducible repeat (first | refine blk_drewN ?_ _ | refine blk_drew ?_ | refine blk_alloc ?_ _)); refine blk_far ?_ NB250_292.out _; (with_reducible repeat (first | refine blk_drewN ?_ _ | refine blk_drew ?_ | refine blk_alloc ?_ _)); refine blk_far ?_ NB250_292.out _; (with_reducible repeat (first | refine blk_drewN ?_ _ | refine blk_drew ?_ | refine blk_alloc ?_ _)); refine blk_far ?_ NB250_292.out _; (with_reducible repeat (first | refine blk_drewN ?_ _ | refine blk_drew ?_ | refine blk_alloc ?_ _)); refine blk_far ?_ NB250_292.out _; (with_reducible repeat (first | refine blk_drewN ?_ _ | refine blk_drew ?_ | refine blk_alloc ?_ _)); refine blk_far ?_ NB250_292.out _; (with_reducible repeat (first | refine blk_drewN ?_ _ | refine blk_drew ?_ | refine blk_alloc ?_ _)); refine blk_far ?_ NB250_292.out _; (with_reducible repeat (first | refine blk_drewN ?_ _ | refine blk_drew ?_ | refine blk_alloc ?_ _)); refine blk_far ?_ NB250_292.out _; (with_reducible repeat (first | refine blk_drewN ?_ _ | refine blk_drew ?_ | refine blk_alloc ?_ _)); refine blk_far ?_ NB250_292.out _; (with_reducible repeat (first | refine blk_drewN ?_ _ | refine blk_drew ?_ | refine blk_alloc ?_ _)); exact BK250.out) hb); have n1_ := Aside0.mk (blk_below (g := gb272) (o := .cells #[.int .i64 t263, .int .i64 t264, .int .i64 t265, .int .i64 t266, .int .i64 t267, .int .i64 t268, .int .i64 t269, .int .i64 t270] 25 (0, 0)) (by (with_reducible repeat (first | refine blk_drewN ?_ _ | refine blk_drew ?_ | refine blk_alloc ?_ _)); refine blk_far ?_ NB272_292.out _; (with_reducible repeat (first | refine blk_drewN ?_ _ | refine blk_drew ?_ | refine blk_alloc ?_ _)); refine blk_far ?_ NB272_292.out _; (with_reducible repeat (first | refine blk_drewN ?_ _ | refine blk_drew ?_ | refine blk_alloc ?_ _)); refine blk_far ?_ NB272_292.out _; (with_reducible repeat (first | refine blk_drewN ?_ _ | refine blk_drew ?_ | refine blk_alloc ?_ _)); refine blk_far ?_ NB272_292.out _; (with_reducible repeat (first | refine blk_drewN ?_ _ | refine blk_drew ?_ | refine blk_alloc ?_ _)); refine blk_far ?_ NB272_292.out _; (with_reducible repeat (first | refine blk_drewN ?_ _ | refine blk_drew ?_ | refine blk_alloc ?_ _)); refine blk_far ?_ NB272_292.out _; (with_reducible repeat (first | refine blk_drewN ?_ _ | refine blk_drew ?_ | refine blk_alloc ?_ _)); refine blk_far ?_ NB272_292.out _; (with_reducible repeat (first | refine blk_drewN ?_ _ | refine blk_drew ?_ | refine blk_alloc ?_ _)); refine blk_far ?_ NB272_292.out _; (with_reducible repeat (first | refine blk_drewN ?_ _ | refine blk_drew ?_ | refine blk_alloc ?_ _)); exact BK272.out) hb); have n2_ := Aside0.mk (blk_below (g := gb282) (o := .cells #[.int .i64 t273, .int .i64 t274, .int .i64 t275, .int .i64 t276, .int .i64 t277, .int .i64 t278, .int .i64 t279, .int .i64 t280] 25 (0, 0)) (by (with_reducible repeat (first | refine blk_drewN ?_ _ | refine blk_drew ?_ | refine blk_alloc ?_ _)); refine blk_far ?_ NB282_292.out _; (with_reducible repeat (first | refine blk_drewN ?_ _ | refine blk_drew ?_ | refine blk_alloc ?_ _)); refine blk_far ?_ NB282_292.out _; (with_reducible repeat (first | refine blk_drewN ?_ _ | refine blk_drew ?_ | refine blk_alloc ?_ _)); refine blk_far ?_ NB282_292.out _; (with_reducible repeat (first | refine blk_drewN ?_ _ | refine blk_drew ?_ | refine blk_alloc ?_ _)); refine blk_far ?_ NB282_292.out _; (with_reducible repeat (first | refine blk_drewN ?_ _ | refine blk_drew ?_ | refine blk_alloc ?_ _)); refine blk_far ?_ NB282_292.out _; (with_reducible repeat (first | refine blk_drewN ?_ _ | refine blk_drew ?_ | refine blk_alloc ?_ _)); refine blk_far ?_ NB282_292.out _; (with_reducible repeat (first | refine blk_drewN ?_ _ | refine blk_drew ?_ | refine blk_alloc ?_ _)); refine blk_far ?_ NB282_292.out _; (with_reducible repeat (first | refine blk_drewN ?_ _ | refine blk_drew ?_ | refine blk_alloc ?_ _)); refine blk_far ?_ NB282_292.out _; (with_reducible repeat (first | refine blk_drewN ?_ _ | refine blk_drew ?_ | refine blk_alloc ?_ _)); exact BK282.out) hb); have n3_ := Aside0.mk (blk_below (g := gb292) (o := .cells #[.int .i64 t283, .int .i64 t284, .int .i64 t285, .int .i64 t286, .int .i64 t287, .int .i64 t288, .int .i64 t289, .int .i64 t290] 25 (0, 0)) (by (with_reducible repeat (first | refine blk_drewN ?_ _ | refine blk_drew ?_ | refine blk_alloc ?_ _)); refine blk_put (cs := #[.int .i64 t283, .int .i64 t284, .int .i64 t285, .int .i64 t286, .int .i64 t287, .int .i64 t288, .int .i64 t289, .int .i64 0]) ?_ 7 _ rfl; (with_reducible repeat (first | refine blk_drewN ?_ _ | refine blk_drew ?_ | refine blk_alloc ?_ _)); refine blk_put (cs := #[.int .i64 t283, .int .i64 t284, .int .i64 t285, .int .i64 t286, .int .i64 t287, .int .i64 t288, .int .i64 0, .int .i64 0]) ?_ 6 _ rfl; (with_reducible repeat (first | refine blk_drewN ?_ _ | refine blk_drew ?_ | refine blk_alloc ?_ _)); refine blk_put (cs := #[.int .i64 t283, .int .i64 t284, .int .i64 t285, .int .i64 t286, .int .i64 t287, .int .i64 0, .int .i64 0, .int .i64 0]) ?_ 5 _ rfl; (with_reducible repeat (first | refine blk_drewN ?_ _ | refine blk_drew ?_ | refine blk_alloc ?_ _)); refine blk_put (cs := #[.int .i64 t283, .int .i64 t284, .int .i64 t285, .int .i64 t286, .int .i64 0, .int .i64 0, .int .i64 0, .int .i64 0]) ?_ 4 _ rfl; (with_reducible repeat (first | refine blk_drewN ?_ _ | refine blk_drew ?_ | refine blk_alloc ?_ _)); refine blk_put (cs := #[.int .i64 t283, .int .i64 t284, .int .i64 t285, .int .i64 0, .int .i64 0, .int .i64 0, .int .i64 0, .int .i64 0]) ?_ 3 _ rfl; (with_reducible repeat (first | refine blk_drewN ?_ _ | refine blk_drew ?_ | refine blk_alloc ?_ _)); refine blk_put (cs := #[.int .i64 t283, .int .i64 t284, .int .i64 0, .int .i64 0, .int .i64 0, .int .i64 0, .int .i64 0, .int .i64 0]) ?_ 2 _ rfl; (with_reducible repeat (first | refine blk_drewN ?_ _ | refine blk_drew ?_ | refine blk_alloc ?_ _)); refine blk_put (cs := #[.int .i64 t283, .int .i64 0, .int .i64 0, .int .i64 0, .int .i64 0, .int .i64 0, .int .i64 0, .int .i64 0]) ?_ 1 _ rfl; (with_reducible repeat (first | refine blk_drewN ?_ _ | refine blk_drew ?_ | refine blk_alloc ?_ _)); refine blk_put (cs := #[.int .i64 0, .int .i64 0, .int .i64 0, .int .i64 0, .int .i64 0, .int .i64 0, .int .i64 0, .int .i64 0]) ?_ 0 _ rfl; (with_reducible repeat (first | refine blk_drewN ?_ _ | refine blk_drew ?_ | refine blk_alloc ?_ _)); exact BK292.out) hb); have n4_ := Aside0.mk (below_step (by repeat (first | (with_reducible first | exact HB.out | apply below_alloc | apply pw_below_drewN | apply below_drew1 | refine below_set ?_ GE250.out | refine below_set ?_ GE272.out | refine below_set ?_ GE282.out | refine below_set ?_ GE292.out) | exact HB.out)) hb); clear BK250; clear BK272; clear BK282; clear BK292; clear HB; have BK250 := n0_; have BK272 := n1_; have BK282 := n2_; have BK292 := n3_; have HB := n4_; clear n0_ n1_ n2_ n3_ n4_; (try clear hb); (try clear hb2); (try clear hk); (try clear hi); have hcz55_0 : w54.cell? ⟨gb282, 0, none⟩ = some (.int .i64 t273) := (blk_cell BK282.out 0).trans rfl; have hcz55_1 : w54.cell? ⟨gb282, 1, none⟩ = some (.int .i64 t274) := (blk_cell BK282.out 1).trans rfl; have hcz55_2 : w54.cell? ⟨gb282, 2, none⟩ = some (.int .i64 t275) := (blk_cell BK282.out 2).trans rfl; have hcz55_3 : w54.cell? ⟨gb282, 3, none⟩ = some (.int .i64 t276) := (blk_cell BK282.out 3).trans rfl; have hcz55_4 : w54.cell? ⟨gb282, 4, none⟩ = some (.int .i64 t277) := (blk_cell BK282.out 4).trans rfl; have hcz55_5 : w54.cell? ⟨gb282, 5, none⟩ = some (.int .i64 t278) := (blk_cell BK282.out 5).trans rfl; have hcz55_6 : w54.cell? ⟨gb282, 6, none⟩ = some (.int .i64 t279) := (blk_cell BK282.out 6).trans rfl; have hcz55_7 : w54.cell? ⟨gb282, 7, none⟩ = some (.int .i64 t280) := (blk_cell BK282.out 7).trans rfl; have hfz55_0 := blk_frozen BK282.out 0; have hfz55_1 := blk_frozen BK282.out 1; have hfz55_2 := blk_frozen BK282.out 2; have hfz55_3 := blk_frozen BK282.out 3; have hfz55_4 := blk_frozen BK282.out 4; have hfz55_5 := blk_frozen BK282.out 5; have hfz55_6 := blk_frozen BK282.out 6; have hfz55_7 := blk_frozen BK282.out 7; have hnb56 := NB272_250.out; have hnc56 := NB250_272.out; have hcz57_0 : w54.cell? ⟨gb272, 0, none⟩ = some (.int .i64 t263) := (blk_cell BK272.out 0).trans rfl; have hcz57_1 : w54.cell? ⟨gb272, 1, none⟩ = some (.int .i64 t264) := (blk_cell BK272.out 1).trans rfl; have hcz57_2 : w54.cell? ⟨gb272, 2, none⟩ = some (.int .i64 t265) := (blk_cell BK272.out 2).trans rfl; have hcz57_3 : w54.cell? ⟨gb272, 3, none⟩ = some (.int .i64 t266) := (blk_cell BK272.out 3).trans rfl; have hcz57_4 : w54.cell? ⟨gb272, 4, none⟩ = some (.int .i64 t267) := (blk_cell BK272.out 4).trans rfl; have hcz57_5 : w54.cell? ⟨gb272, 5, none⟩ = some (.int .i64 t268) := (blk_cell BK272.out 5).trans rfl; have hcz57_6 : w54.cell? ⟨gb272, 6, none⟩ = some (.int .i64 t269) := (blk_cell BK272.out 6).trans rfl; have hcz57_7 : w54.cell? ⟨gb272, 7, none⟩ = some (.int .i64 t270) := (blk_cell BK272.out 7).trans rfl; have hfz57_0 := blk_frozen BK272.out 0; have hfz57_1 := blk_frozen BK272.out 1; have hfz57_2 := blk_frozen BK272.out 2; have hfz57_3 := blk_frozen BK272.out 3; have hfz57_4 := blk_frozen BK272.out 4; have hfz57_5 := blk_frozen BK272.out 5; have hfz57_6 := blk_frozen BK272.out 6; have hfz57_7 := blk_frozen BK272.out 7))
                                  go_ret
                                  exact ⟨by first | rfl | (simp [errW_none, errW_some] <;> rfl) | (simp [*, errW_none, errW_some] <;> rfl), by repeat (first | (with_reducible first | exact HB.out | apply below_alloc | apply pw_below_drewN | apply below_drew1 | refine below_set ?_ GE250.out | refine below_set ?_ GE272.out | refine below_set ?_ GE282.out | refine below_set ?_ GE292.out) | exact HB.out)⟩
                                · replace c44 := Bool.eq_false_iff.mpr c44
                                  subst c44
                                  have H1 : (some false) = some r := by rw [if_neg (show ¬ (false = true) by decide)] at H; exact H
                                  clear H
                                  have H := H1
                                  clear H1
                                  exact absurd ((Option.some.inj H).trans hT.out) (by decide)
                              · rw [if_neg c42] at H
                                have c42b0 : (t291 == 0) = false := beq_eq_false_iff_ne.mpr c42
                                have c42b1 : (t291 != 0) = true := bne_iff_ne.mpr c42
                                exact absurd ((Option.some.inj H).trans hT.out) (by decide)
                · rw [if_neg c15] at H
                  have c15b0 : (t271 == 0) = false := beq_eq_false_iff_ne.mpr c15
                  have c15b1 : (t271 != 0) = true := bne_iff_ne.mpr c15
                  exact absurd ((Option.some.inj H).trans hT.out) (by decide)
              · rw [if_neg c13] at H
                exact absurd H (by simp)
            · rw [if_neg c12] at H
              exact absurd H (by simp)
          · rw [if_neg c11] at H
            have c11b0 : decide (x29_1 < (l0.length : Int)) = false := decide_eq_false c11
            clear c11
            replace H := Option.bind_eq_some_iff.mp H
            obtain ⟨⟨t251, t252, t253, t254, t255, t256, t257, t258, t259⟩, A580, H⟩ := H
            replace H : (if t259 = 0 then (if t256 = x5_1 then ((item_Over.f t251 t252 t253 t254 t255 t256 t257 t258).bind fun t261 => (some (!t261))) else (some false)) else (some false)) = some r := H
            have A58 := Aside0.mk A580
            clear A580
            by_cases c59 : t259 = 0
            · rw [if_pos c59] at H
              have c59b0 : (t259 == 0) = true := beq_iff_eq.mpr c59
              have c59b1 : (t259 != 0) = false := bne_eq_false_iff_eq.mpr c59
              clear c59
              by_cases c60 : t256 = x5_1
              · rw [if_pos c60] at H
                have c60b0 : (t256 == x5_1) = true := beq_iff_eq.mpr c60
                have c60b1 : (t256 != x5_1) = false := bne_eq_false_iff_eq.mpr c60
                clear c60
                replace H := Option.bind_eq_some_iff.mp H
                obtain ⟨t261, A610, H⟩ := H
                replace H : (some (!t261)) = some r := H
                have A61 := Aside0.mk A610
                clear A610
                obtain rfl := Option.some.inj H
                have hcz62_0 : wr.cell? ⟨gb250, 0, none⟩ = some (.int .i64 x251000_1) := (blk_cell BK250.out 0).trans rfl
                have hcz62_1 : wr.cell? ⟨gb250, 1, none⟩ = some (.int .i64 x251001_1) := (blk_cell BK250.out 1).trans rfl
                have hcz62_2 : wr.cell? ⟨gb250, 2, none⟩ = some (.int .i64 x251002_1) := (blk_cell BK250.out 2).trans rfl
                have hcz62_3 : wr.cell? ⟨gb250, 3, none⟩ = some (.int .i64 x251003_1) := (blk_cell BK250.out 3).trans rfl
                have hcz62_4 : wr.cell? ⟨gb250, 4, none⟩ = some (.int .i64 x251004_1) := (blk_cell BK250.out 4).trans rfl
                have hcz62_5 : wr.cell? ⟨gb250, 5, none⟩ = some (.int .i64 x251005_1) := (blk_cell BK250.out 5).trans rfl
                have hcz62_6 : wr.cell? ⟨gb250, 6, none⟩ = some (.int .i64 x251006_1) := (blk_cell BK250.out 6).trans rfl
                have hcz62_7 : wr.cell? ⟨gb250, 7, none⟩ = some (.int .i64 x251007_1) := (blk_cell BK250.out 7).trans rfl
                have hfz62_0 := blk_frozen BK250.out 0
                have hfz62_1 := blk_frozen BK250.out 1
                have hfz62_2 := blk_frozen BK250.out 2
                have hfz62_3 := blk_frozen BK250.out 3
                have hfz62_4 := blk_frozen BK250.out 4
                have hfz62_5 := blk_frozen BK250.out 5
                have hfz62_6 := blk_frozen BK250.out 6
                have hfz62_7 := blk_frozen BK250.out 7
                go_wp2_with (first | ((with_reducible refine gate_callee (f := 17) rfl ?_); refine goesL_ (some 103) rfl rfl Try.func17 (by kernel_rfl) rfl #[.agg #[.int .i64 x251000_1, .int .i64 x251001_1, .int .i64 x251002_1, .int .i64 x251003_1, .int .i64 x251004_1, .int .i64 x251005_1, .int .i64 x251006_1, .int .i64 x251007_1]] rfl (by (try simp only [List.map_toArray, List.map_cons, List.map_nil]); first | done | rfl | (simp only [List.length_drop, List.length_take]; rfl)) ?_; (with_reducible refine (item_Agree.calls x251000_1 x251001_1 x251002_1 x251003_1 x251004_1 x251005_1 x251006_1 x251007_1 t251 t252 t253 t254 t255 t256 t257 t258 t259 _ A58.out).mono ?_); rintro e w63 ⟨rfl, hb⟩; refine ⟨_, rfl, ?_⟩; have n0_ := Aside0.mk (blk_below (g := gb250) (o := .cells #[.int .i64 x251000_1, .int .i64 x251001_1, .int .i64 x251002_1, .int .i64 x251003_1, .int .i64 x251004_1, .int .i64 x251005_1, .int .i64 x251006_1, .int .i64 x251007_1] 25 (0, 0)) (by (with_reducible repeat (first | refine blk_drewN ?_ _ | refine blk_drew ?_ | refine blk_alloc ?_ _)); exact BK250.out) hb); have n1_ := Aside0.mk (below_step (by repeat (first | (with_reducible first | exact HB.out | apply below_alloc | apply pw_below_drewN | apply below_drew1 | refine below_set ?_ GE250.out) | exact HB.out)) hb); clear BK250; clear HB; have BK250 := n0_; have HB := n1_; clear n0_ n1_; (try clear hb); (try clear hb2); (try clear hk); (try clear hi)) | ((with_reducible refine gate_dst (N := 15) rfl ?_); refine box_event ?hg (N := 15) ?hd (cs := #[.int .i64 0, .int .i64 0, .int .i64 0, .int .i64 0, .int .i64 0, .int .i64 0, .int .i64 0, .int .i64 0]) (t := 25) ?hr ?_; (case hd => rfl); (case hg => rfl); (case hr => first | (go_simp; done) | (go_simp; rfl)); intro gb260 hg w64 hbox hb; have n0_ := Aside0.mk (blk_below (g := gb250) (o := .cells #[.int .i64 x251000_1, .int .i64 x251001_1, .int .i64 x251002_1, .int .i64 x251003_1, .int .i64 x251004_1, .int .i64 x251005_1, .int .i64 x251006_1, .int .i64 x251007_1] 25 (0, 0)) (by (with_reducible repeat (first | refine blk_drewN ?_ _ | refine blk_drew ?_ | refine blk_alloc ?_ _)); exact BK250.out) hb); have n1_ := Aside0.mk (below_step (by repeat (first | (with_reducible first | exact HB.out | apply below_alloc | apply pw_below_drewN | apply below_drew1 | refine below_set ?_ GE250.out) | exact HB.out)) hb); have n2_ := Aside0.mk (hbox); have n3_ := Aside0.mk ((by rw [hg]; exact (below_size (by repeat (first | (with_reducible first | exact HB.out | apply below_alloc | apply pw_below_drewN | apply below_drew1 | refine below_set ?_ GE250.out) | exact HB.out))) : w.heap.size ≤ gb260)); have n4_ := Aside0.mk ((by rw [hg]; exact (below_size (by repeat (first | (with_reducible first | exact HB.out | apply below_alloc | apply pw_below_drewN | apply below_drew1 | refine below_set ?_ GE250.out) | exact HB.out))) : w.heap.size ≤ gb260)); have n5_ := Aside0.mk ((by rw [hg]; exact Nat.ne_of_lt (blk_lt (g := gb250) (o := .cells #[.int .i64 x251000_1, .int .i64 x251001_1, .int .i64 x251002_1, .int .i64 x251003_1, .int .i64 x251004_1, .int .i64 x251005_1, .int .i64 x251006_1, .int .i64 x251007_1] 25 (0, 0)) (by (with_reducible repeat (first | refine blk_drewN ?_ _ | refine blk_drew ?_ | refine blk_alloc ?_ _)); exact BK250.out)) : gb250 ≠ gb260)); have n6_ := Aside0.mk ((by rw [hg]; exact Nat.ne_of_gt (blk_lt (g := gb250) (o := .cells #[.int .i64 x251000_1, .int .i64 x251001_1, .int .i64 x251002_1, .int .i64 x251003_1, .int .i64 x251004_1, .int .i64 x251005_1, .int .i64 x251006_1, .int .i64 x251007_1] 25 (0, 0)) (by (with_reducible repeat (first | refine blk_drewN ?_ _ | refine blk_drew ?_ | refine blk_alloc ?_ _)); exact BK250.out)) : gb260 ≠ gb250)); clear BK250; clear HB; have BK250 := n0_; have HB := n1_; have BK260 := n2_; have GW260 := n3_; have GE260 := n4_; have NB250_260 := n5_; have NB260_250 := n6_; clear n0_ n1_ n2_ n3_ n4_ n5_ n6_; clear hb hbox hg; have hnb65 := NB260_250.out; have hnc65 := NB250_260.out; have hcz66_0 : w64.cell? ⟨gb260, 0, none⟩ = some (.int .i64 0) := (blk_cell BK260.out 0).trans rfl; have hcz66_1 : w64.cell? ⟨gb260, 1, none⟩ = some (.int .i64 0) := (blk_cell BK260.out 1).trans rfl; have hcz66_2 : w64.cell? ⟨gb260, 2, none⟩ = some (.int .i64 0) := (blk_cell BK260.out 2).trans rfl; have hcz66_3 : w64.cell? ⟨gb260, 3, none⟩ = some (.int .i64 0) := (blk_cell BK260.out 3).trans rfl; have hcz66_4 : w64.cell? ⟨gb260, 4, none⟩ = some (.int .i64 0) := (blk_cell BK260.out 4).trans rfl; have hcz66_5 : w64.cell? ⟨gb260, 5, none⟩ = some (.int .i64 0) := (blk_cell BK260.out 5).trans rfl; have hcz66_6 : w64.cell? ⟨gb260, 6, none⟩ = some (.int .i64 0) := (blk_cell BK260.out 6).trans rfl; have hcz66_7 : w64.cell? ⟨gb260, 7, none⟩ = some (.int .i64 0) := (blk_cell BK260.out 7).trans rfl; have hfz66_0 := blk_frozen BK260.out 0; have hfz66_1 := blk_frozen BK260.out 1; have hfz66_2 := blk_frozen BK260.out 2; have hfz66_3 := blk_frozen BK260.out 3; have hfz66_4 := blk_frozen BK260.out 4; have hfz66_5 := blk_frozen BK260.out 5; have hfz66_6 := blk_frozen BK260.out 6; have hfz66_7 := blk_frozen BK260.out 7) | (go_at_call 16; (with_reducible refine (item_Over.calls t251 t252 t253 t254 t255 t256 t257 t258 t261 _ A61.out).mono ?_); rintro e w67 ⟨rfl, hb⟩; have n0_ := Aside0.mk (blk_below (g := gb250) (o := .cells #[.int .i64 x251000_1, .int .i64 x251001_1, .int .i64 x251002_1, .int .i64 x251003_1, .int .i64 x251004_1, .int .i64 x251005_1, .int .i64 x251006_1, .int .i64 x251007_1] 25 (0, 0)) (by (with_reducible repeat (first | refine blk_drewN ?_ _ | refine blk_drew ?_ | refine blk_alloc ?_ _)); refine blk_far ?_ NB250_260.out _; (with_reducible repeat (first | refine blk_drewN ?_ _ | refine blk_drew ?_ | refine blk_alloc ?_ _)); refine blk_far ?_ NB250_260.out _; (with_reducible repeat (first | refine blk_drewN ?_ _ | refine blk_drew ?_ | refine blk_alloc ?_ _)); refine blk_far ?_ NB250_260.out _; (with_reducible repeat (first | refine blk_drewN ?_ _ | refine blk_drew ?_ | refine blk_alloc ?_ _)); refine blk_far ?_ NB250_260.out _; (with_reducible repeat (first | refine blk_drewN ?_ _ | refine blk_drew ?_ | refine blk_alloc ?_ _)); refine blk_far ?_ NB250_260.out _; (with_reducible repeat (first | refine blk_drewN ?_ _ | refine blk_drew ?_ | refine blk_alloc ?_ _)); refine blk_far ?_ NB250_260.out _; (with_reducible repeat (first | refine blk_drewN ?_ _ | refine blk_drew ?_ | refine blk_alloc ?_ _)); refine blk_far ?_ NB250_260.out _; (with_reducible repeat (first | refine blk_drewN ?_ _ | refine blk_drew ?_ | refine blk_alloc ?_ _)); refine blk_far ?_ NB250_260.out _; (with_reducible repeat (first | refine blk_drewN ?_ _ | refine blk_drew ?_ | refine blk_alloc ?_ _)); exact BK250.out) hb); have n1_ := Aside0.mk (blk_below (g := gb260) (o := .cells #[.int .i64 t251, .int .i64 t252, .int .i64 t253, .int .i64 t254, .int .i64 t255, .int .i64 t256, .int .i64 t257, .int .i64 t258] 25 (0, 0)) (by (with_reducible repeat (first | refine blk_drewN ?_ _ | refine blk_drew ?_ | refine blk_alloc ?_ _)); refine blk_put (cs := #[.int .i64 t251, .int .i64 t252, .int .i64 t253, .int .i64 t254, .int .i64 t255, .int .i64 t256, .int .i64 t257, .int .i64 0]) ?_ 7 _ rfl; (with_reducible repeat (first | refine blk_drewN ?_ _ | refine blk_drew ?_ | refine blk_alloc ?_ _)); refine blk_put (cs := #[.int .i64 t251, .int .i64 t252, .int .i64 t253, .int .i64 t254, .int .i64 t255, .int .i64 t256, .int .i64 0, .int .i64 0]) ?_ 6 _ rfl; (with_reducible repeat (first | refine blk_drewN ?_ _ | refine blk_drew ?_ | refine blk_alloc ?_ _)); refine blk_put (cs := #[.int .i64 t251, .int .i64 t252, .int .i64 t253, .int .i64 t254, .int .i64 t255, .int .i64 0, .int .i64 0, .int .i64 0]) ?_ 5 _ rfl; (with_reducible repeat (first | refine blk_drewN ?_ _ | refine blk_drew ?_ | refine blk_alloc ?_ _)); refine blk_put (cs := #[.int .i64 t251, .int .i64 t252, .int .i64 t253, .int .i64 t254, .int .i64 0, .int .i64 0, .int .i64 0, .int .i64 0]) ?_ 4 _ rfl; (with_reducible repeat (first | refine blk_drewN ?_ _ | refine blk_drew ?_ | refine blk_alloc ?_ _)); refine blk_put (cs := #[.int .i64 t251, .int .i64 t252, .int .i64 t253, .int .i64 0, .int .i64 0, .int .i64 0, .int .i64 0, .int .i64 0]) ?_ 3 _ rfl; (with_reducible repeat (first | refine blk_drewN ?_ _ | refine blk_drew ?_ | refine blk_alloc ?_ _)); refine blk_put (cs := #[.int .i64 t251, .int .i64 t252, .int .i64 0, .int .i64 0, .int .i64 0, .int .i64 0, .int .i64 0, .int .i64 0]) ?_ 2 _ rfl; (with_reducible repeat (first | refine blk_drewN ?_ _ | refine blk_drew ?_ | refine blk_alloc ?_ _)); refine blk_put (cs := #[.int .i64 t251, .int .i64 0, .int .i64 0, .int .i64 0, .int .i64 0, .int .i64 0, .int .i64 0, .int .i64 0]) ?_ 1 _ rfl; (with_reducible repeat (first | refine blk_drewN ?_ _ | refine blk_drew ?_ | refine blk_alloc ?_ _)); refine blk_put (cs := #[.int .i64 0, .int .i64 0, .int .i64 0, .int .i64 0, .int .i64 0, .int .i64 0, .int .i64 0, .int .i64 0]) ?_ 0 _ rfl; (with_reducible repeat (first | refine blk_drewN ?_ _ | refine blk_drew ?_ | refine blk_alloc ?_ _)); exact BK260.out) hb); have n2_ := Aside0.mk (below_step (by repeat (first | (with_reducible first | exact HB.out | apply below_alloc | apply pw_below_drewN | apply below_drew1 | refine below_set ?_ GE250.out | refine below_set ?_ GE260.out) | exact HB.out)) hb); clear BK250; clear BK260; clear HB; have BK250 := n0_; have BK260 := n1_; have HB := n2_; clear n0_ n1_ n2_; (try clear hb); (try clear hb2); (try clear hk); (try clear hi)))
                go_ret
                exact ⟨by first | rfl | (simp [errW_none, errW_some] <;> rfl) | (simp [*, errW_none, errW_some] <;> rfl), by repeat (first | (with_reducible first | exact HB.out | apply below_alloc | apply pw_below_drewN | apply below_drew1 | refine below_set ?_ GE250.out | refine below_set ?_ GE260.out) | exact HB.out)⟩
              · rw [if_neg c60] at H
                have c60b0 : (t256 == x5_1) = false := beq_eq_false_iff_ne.mpr c60
                have c60b1 : (t256 != x5_1) = true := bne_iff_ne.mpr c60
                exact absurd ((Option.some.inj H).trans hT.out) (by decide)
            · rw [if_neg c59] at H
              have c59b0 : (t259 == 0) = false := beq_eq_false_iff_ne.mpr c59
              have c59b1 : (t259 != 0) = true := bne_iff_ne.mpr c59
              exact absurd ((Option.some.inj H).trans hT.out) (by decide)
  · replace c3 := Bool.eq_false_iff.mpr c3
    subst c3
    have H1 : (some false) = some r := by rw [if_neg (show ¬ (false = true) by decide)] at H; exact H
    clear H
    have H := H1
    clear H1
    exact absurd ((Option.some.inj H).trans hT.out) (by decide)

/-- THE ONE PURE STATEMENT of contralaw09_ItemRounds: yours. -/
def contralaw09_ItemRounds.Pure : Prop := ∀ (l0 : List Int), l0.length ≤ maxLen → l0.length * 8 ≤ 140737488351232 → (∀ x ∈ l0, (Lit.int .i64 x).wf = true) → ∃ k, contralaw09_ItemRounds.f k l0 = some true
theorem contralaw09_ItemRounds.walk (P : contralaw09_ItemRounds.Pure) (a0 : Option Addr) (len0 cap0 : Nat) (z0 : List Int) (w : World) (w0 : (a0 = none ∧ len0 = 0 ∧ cap0 = 0 ∧ z0 = []) ∨ ∃ x, a0 = some x ∧ len0 ≤ cap0 ∧ cap0 ≤ maxLen ∧ z0.length = cap0 ∧ (∀ i, i < z0.length → w.cell? (x.add i) = some (.int .i64 (z0.getD i 0))) ∧ ∀ n ∈ z0, (Lit.int .i64 n).wf = true) (y0 : len0 * 8 ≤ 140737488351232) :
    Calls Try.prog 4 #[.slice a0 len0 cap0] w fun e w' => e = .returned (.bool true) ∧ Below w.heap.size w w' := by
  obtain ⟨l0, rfl, hr0, hm0, hw0, hc0⟩ := ReadsInt.ofRowC w0
  obtain ⟨k, h⟩ := P l0 hm0 y0 hw0
  refine (contralaw09_ItemRounds.calls k _ _ l0 true w (Kd.C_of_reads (d := (0 : Int)) (h1 := fun _ => rfl) hr0) hc0 h).mono ?_
  rintro e w' ⟨rfl, hd⟩
  exact ⟨rfl, hd⟩

end Go.Proofs.Ytbmnpjalekailaa.M
