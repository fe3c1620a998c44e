/-
  On a disk that is down nothing is put, added, synced or renewed, and nothing changes.
-/
import Derived.Test.YthpdmjpimeibnaaOOpen
namespace Go.Proofs.Ythpdmjpimeibnaa.M
open Go.RowKit Go.Proofs.YthpdmjpimeibnaaW.PrintWords Go.Proofs.YthpdmjpimeibnaaW.PrintLast Go.Proofs.YthpdmjpimeibnaaW.PrintMore
set_option linter.unusedVariables false
set_option linter.unusedSimpArgs false
set_option maxHeartbeats 4000000 in
set_option maxRecDepth 100000 in
theorem l_Put_down {N : Nat} {w : World} {g gl : Nat} {d : DS} {n : Int} {A : Option Addr} {c : Nat} {x : List Int} (h : IsW N w g gl d n) (hd : d.down = true) (hx : Kd.C (Kd.int .u8) w A x.length x) (hc : x.length ≤ c) (hxb : Pure.Frame.Bytes x) (hl : x.length ≤ 16384) :
    Calls Try.prog 30 #[.pointer (some ⟨gl, 0, none⟩), .slice A x.length c] w fun y w' => y = .returned (.int .i64 60) ∧ IsW N w' g gl d n ∧ Below w.heap.size w w' := by
  have H := Aside0.mk h; have HD := Aside0.mk hd; have HX := Aside0.mk hx; have HC := Aside0.mk hc
  obtain ⟨k, hk⟩ := (Pure.Frame.append_ev [] x hxb hl (by simp)).rounds
  rw [List.nil_append] at hk
  have HK := Aside0.mk hk
  obtain ⟨b, hb⟩ : ∃ b, b = Pure.Frame.rec_ x := ⟨_, rfl⟩
  rw [← hb] at HK
  clear h hd hx hc hxb hl hk hb
  go_enter Try.func30, Try.ntmps30
  go_wp2_with fail
  refine (frame_Append.calls k none 0 [] A c x _ _ w (Kd.C_nil _ _) (Nat.le_refl _) HX.out HC.out HK.out).mono ?_; rintro e w1 ⟨v1, rfl, hO, hB⟩
  obtain ⟨A1, c1, e1, hc1, -⟩ := Kd.R_reads hO; subst e1
  have W1 := Aside0.mk (H.out.below hB); have B1 := Aside0.mk hB
  have hc0 : w1.cell? ⟨gl, 0, none⟩ = some (.pointer (some ⟨g, 0, none⟩)) := (blk_cell W1.out.2.1 0).trans rfl
  clear hO hB hc1
  go_wp2_with fail
  refine (d_Write_down W1.out.1 HD.out).mono ?_; rintro y w2 ⟨rfl, hD, hB⟩
  have W2 := Aside0.mk (W1.out.below hB); have B2 := Aside0.mk (below_step B1.out hB)
  clear hD hB hc0
  go_wp2_with fail
  go_ret
  exact ⟨rfl, W2.out, B2.out⟩
set_option maxHeartbeats 4000000 in
set_option maxRecDepth 100000 in
theorem l_Add_down {N : Nat} {w : World} {g gl : Nat} {d : DS} {n : Int} {A : Option Addr} {c : Nat} {x : List Int} (h : IsW N w g gl d n) (hd : d.down = true) (hx : Kd.C (Kd.int .u8) w A x.length x) (hc : x.length ≤ c) (hxb : Pure.Frame.Bytes x) (hl : x.length ≤ 16384) :
    Calls Try.prog 27 #[.pointer (some ⟨gl, 0, none⟩), .slice A x.length c] w fun y w' => y = .returned (.int .i64 60) ∧ IsW N w' g gl d n ∧ Below w.heap.size w w' := by
  have HP := Aside0.mk (l_Put_down h hd hx hc hxb hl)
  clear h hd hx hc hxb hl
  go_enter Try.func27, Try.ntmps27
  go_wp2_with fail
  refine HP.out.mono ?_; rintro y w1 ⟨rfl, hW, hB⟩; have W1 := Aside0.mk hW; have B1 := Aside0.mk hB; clear hW hB
  go_wp2_with fail
  go_ret
  exact ⟨rfl, W1.out, B1.out⟩
set_option maxHeartbeats 4000000 in
set_option maxRecDepth 100000 in
theorem l_Renew_down {N : Nat} {w : World} {g gl gx : Nat} {d : DS} {n : Int} {A : Option Addr} {c : Nat} {x : List Int} (h : IsW N w g gl d n) (hd : d.down = true) (hr : w.cell? ⟨gx, 0, none⟩ = some (.slice A x.length c)) (hx : Kd.C (Kd.int .u8) w A x.length x) (hc : x.length ≤ c) (hxb : Pure.Frame.Bytes x) (hl : x.length ≤ 16384) :
    Calls Try.prog 33 #[.pointer (some ⟨gl, 0, none⟩), .slice (some ⟨gx, 0, none⟩) 1 1] w fun y w' => y = .returned (.int .i64 60) ∧ IsW N w' g gl d n ∧ Below w.heap.size w w' := by
  have H := Aside0.mk h; have HD := Aside0.mk hd; have HX := Aside0.mk hx; have HC := Aside0.mk hc
  obtain ⟨k, hk⟩ := (Pure.Frame.append_ev [] x hxb hl (by simp)).rounds
  rw [List.nil_append] at hk
  have HK := Aside0.mk hk
  obtain ⟨b, hb⟩ : ∃ b, b = Pure.Frame.rec_ x := ⟨_, rfl⟩
  rw [← hb] at HK
  have HB := Aside0.mk (Below.refl w.heap.size w)
  have HR := Aside0.mk hr
  clear h hd hx hc hxb hl hk hb hr
  go_enter Try.func33, Try.ntmps33
  go_wp2_with fail
  go_loopg [5, 13] 2 (fun kq v5 v13 w' => (v13 = .int .i64 0 ∧ v5 = .slice none 0 0 ∧ Aside0 (kq = 2) ∧ Aside0 (Below w.heap.size w w')) ∨ (v13 = .int .i64 1 ∧ ∃ A1 m1 c1, v5 = .slice A1 m1 c1 ∧ Aside0 (Below w.heap.size w w')))
  case atStart => exact .inl ⟨rfl, rfl, ⟨rfl⟩, HB⟩
  case round =>
    rcases hrel with ⟨rfl, rfl, HQ, B5⟩ | ⟨rfl, A1, m1, c1, rfl, B5⟩
    · have hx0 := cell_kept HR.out (Kept.of_below B5.out (fun _ => False)) id
      go_wp2_with fail
      refine (frame_Append.calls k none 0 [] A c x _ _ _ (Kd.C_nil _ _) (Nat.le_refl _) (Kd.C_below HX.out B5.out) HC.out HK.out).mono ?_; rintro e w1 ⟨v1, rfl, hO, hB⟩
      obtain ⟨A1, c1, e1, hc1, -⟩ := Kd.R_reads hO; subst e1
      have B6 := Aside0.mk (below_step B5.out hB)
      clear hO hB hc1
      go_wp2_with fail
      go_roundg (gk - 1)
      case measure => have := HQ.out; omega
      case rel => exact .inr ⟨rfl, _, _, _, rfl, B6⟩
    · have W5 := Aside0.mk (H.out.below B5.out)
      have hc0 := (blk_cell W5.out.2.1 0).trans rfl
      go_wp2_with fail
      refine (d_Renew_down W5.out.1 HD.out).mono ?_; rintro y w2 ⟨rfl, hD, hB⟩
      have W2 := Aside0.mk (W5.out.below hB); have B2 := Aside0.mk (below_step B5.out hB)
      clear hD hB hc0
      go_wp2_with fail
      go_ret
      exact ⟨rfl, W2.out, B2.out⟩
end Go.Proofs.Ythpdmjpimeibnaa.M
