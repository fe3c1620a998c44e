/-
  Small words on 'from some number of rounds on'.
-/
import Derived.Test.YtianljjmnpdkcaaXWords
namespace Go.Proofs.YtianljjmnpdkcaaW.PrintWords
open Go.RowKit
theorem Ev.pos {α : Type} {c : Prop} [Decidable c] {g f : Nat → Option α} {r : α} (h : c) (k : Ev g r) : Ev (fun n => if c then g n else f n) r := Ev.congr (fun _ => if_pos h) k
theorem Ev.neg {α : Type} {c : Prop} [Decidable c] {g f : Nat → Option α} {r : α} (h : ¬ c) (k : Ev f r) : Ev (fun n => if c then g n else f n) r := Ev.congr (fun _ => if_neg h) k
theorem Ev.let_ {α β : Type} {f : Nat → α → Option β} {a : α} {r : β} (k : Ev (fun n => f n a) r) : Ev (fun n => (some a).bind (f n)) r := Ev.congr (fun _ => rfl) k
theorem Ev.some_ {α : Type} {a r : α} (h : a = r) : Ev (fun _ => some a) r := by subst h; exact Ev.now _
/-- a loop's (a joint's) head, one round -/
theorem Ev.up {α : Type} {g : Nat → Option α} {r : α} (k : Ev (fun n => g (n + 1)) r) : Ev g r := Ev.step (fun _ => rfl) k
theorem Ev.eq {α : Type} {g : Nat → Option α} {r r' : α} (k : Ev g r) (h : r = r') : Ev g r' := h ▸ k
end Go.Proofs.YtianljjmnpdkcaaW.PrintWords
namespace Go.Proofs.Ytianljjmnpdkcaa.Pure
open Go.RowKit
theorem w64 {i : Int} (h0 : -9223372036854775808 ≤ i) (h : i ≤ 9223372036854775807) : wrap64 i = i := by unfold wrap64; omega
end Go.Proofs.Ytianljjmnpdkcaa.Pure
