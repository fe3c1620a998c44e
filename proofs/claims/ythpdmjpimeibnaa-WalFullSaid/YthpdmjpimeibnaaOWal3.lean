/-
  A record is added, for any set T of blocks that may change.
-/
import Derived.Test.YthpdmjpimeibnaaOOpen2
namespace Go.Proofs.Ythpdmjpimeibnaa.M
open Go.RowKit Go.Proofs.YthpdmjpimeibnaaW.PrintWords Go.Proofs.YthpdmjpimeibnaaW.PrintLast Go.Proofs.YthpdmjpimeibnaaW.PrintMore
set_option linter.unusedVariables false
set_option linter.unusedSimpArgs false
set_option maxHeartbeats 4000000 in
set_option maxRecDepth 100000 in
theorem lt_Add {T : Nat → Prop} {w : World} {g gl : Nat} {d : DS} {n : Int} {A : Option Addr} {c : Nat} {x : List Int} (h : IsT T w g gl d n) (ho : d.Ok) (ho2 : (d.put x n).1.Ok) (hx : Kd.C (Kd.int .u8) w A x.length x) (hc : x.length ≤ c) (hxb : Pure.Frame.Bytes x) (hn : 0 ≤ n ∧ n < 1000000) :
    Calls Try.prog 27 #[.pointer (some ⟨gl, 0, none⟩), .slice A x.length c] w fun y w' => y = .returned (.int .i64 (d.add x n).2.1) ∧ IsT (fun k => T k ∨ w.heap.size ≤ k) w' g gl (d.add x n).1 (d.add x n).2.2 ∧ Kept w w' T ∧ Below 0 w w' := by
  have HP := Aside0.mk (lt_Put h ho hx hc hxb hn)
  unfold DS.add
  obtain ⟨r, er, m, hr⟩ : ∃ r er m, d.put x n = (r, er, m) := ⟨_, _, _, rfl⟩
  rw [hr] at HP ho2 ⊢
  dsimp only at HP ho2 ⊢
  have HO := Aside0.mk ho2
  clear h ho ho2 hx hc hxb hn hr
  by_cases he : er = 0
  · subst he
    rw [if_pos rfl]
    go_enter Try.func27, Try.ntmps27
    go_wp2_with fail
    refine HP.out.mono ?_; rintro y w1 ⟨rfl, hW, hK, hB⟩; have W1 := Aside0.mk hW; have K1 := Aside0.mk hK; have B1 := Aside0.mk hB; clear hW hK hB
    go_wp2_with fail
    refine (lt_Sync W1.out HO.out).mono ?_; rintro y w2 ⟨rfl, hW, hK, hB⟩; have W2 := Aside0.mk (hW.mono (T' := fun k => T k ∨ w.heap.size ≤ k) (fun k hk => hk.elim id (fun q => .inr (Nat.le_trans B1.out.size q)))); have K2 := Aside0.mk (K1.out.then_ hK (fun k hk => hk)); have B2 := Aside0.mk (B1.out.trans hB); clear hW hK hB
    go_wp2_with fail
    go_ret
    exact ⟨rfl, W2.out, K2.out, B2.out⟩
  · have t1 : (er != 0) = true := bne_iff_ne.mpr he
    rw [if_neg he]
    clear he
    go_enter Try.func27, Try.ntmps27
    go_wp2_with fail
    refine HP.out.mono ?_; rintro y w1 ⟨rfl, hW, hK, hB⟩; have W1 := Aside0.mk hW; have K1 := Aside0.mk hK; have B1 := Aside0.mk hB; clear hW hK hB
    go_wp2_with fail
    go_ret
    exact ⟨rfl, W1.out, K1.out, B1.out⟩
end Go.Proofs.Ythpdmjpimeibnaa.M
