/-
  No cell of these rows narrows 'for every input' (looked for: loops, veiled, ifaces, maps, wideKeys, modest, calm, conditions, laid).
  DERIVED. THE GIVEN ROWS OF THIS SEAT. 6 by the template 'for every input the law returns true; each argument reads behind the call as it read before'; 0 by the template 'total and deterministic' (their statements: YtbmnpjalekailaaTotals.lean).
  GIVEN WITH THE SEED: the statements are not yours to turn. If you find one false, say at which input.
  Laid BY PROGRAM, IN A SANDBOX (cutbox-rows.mjs): the forced cells as the released guide's own fill.sh prints them over the translation 0fb2bb248f76e93a… (all of the seat's roots in one cut). By AI agents, Wed Nov 11 2026. No macro, syntax, notation, axiom, sorry.
-/
import Derived.Test.YtbmnpjalekailaaChecked
import GoSem.Claim
import GoSem.ClaimJoined
import GoSem.ClaimMapViews
import Derived.JoinedTies
import Derived.KernelRfl
namespace Go.Proofs.Ytbmnpjalekailaa
/- THE CELL 'sum', in the pinned program and in every row, IS THE sha256 OF THE DUMP (.gsa) THAT YtbmnpjalekailaaProg.lean LOADS. Nothing in Lean hashes anything: it is a label: what it is worth is what the hold of that sum in a sandbox is worth. -/
noncomputable def Try.pinned : Pinned := { name := "ytbmnpjalekailaa", sum := "0fb2bb248f76e93a1980c86134cda68130e3c291d84807dd4f4c5caa53d57b25", checked := Try.checked }
namespace Rows
def none {H : Type} : Left H := { results := [], args := [] }

/-- 'contralaw09.ItemChecks': WHATEVER THE INPUT: true; the input reads as it did. -/
def itemChecksSpec : ChangeSpec := { name := "itemChecks", fn := fun _ => fun
  | [d] => { results := [.lit (.bool true)], args := [d] }
  | _ => none }
def itemChecksRow : OpenClaim := { program := "ytbmnpjalekailaa", sum := "0fb2bb248f76e93a1980c86134cda68130e3c291d84807dd4f4c5caa53d57b25", func := "contra/contralaw09.ItemChecks", spec := "itemChecks", apart := false }
def ItemChecksSaid : Prop := itemChecksRow.holds Try.pinned (OpenSpec.ofChange itemChecksSpec)

/-- ITS FALSE NEIGHBOUR: 'it returns false'. Refute it at one input. -/
def itemChecksWrong : ChangeSpec := { name := "itemChecks", fn := fun _ => fun
  | [d] => { results := [.lit (.bool false)], args := [d] }
  | _ => none }
def ItemChecksWrongFalsely : Prop := itemChecksRow.holds Try.pinned (OpenSpec.ofChange itemChecksWrong)

/-- 'contralaw09.ItemRounds': WHATEVER THE INPUT: true; the input reads as it did. -/
def itemRoundsSpec : ChangeSpec := { name := "itemRounds", fn := fun _ => fun
  | [d] => { results := [.lit (.bool true)], args := [d] }
  | _ => none }
def itemRoundsRow : OpenClaim := { program := "ytbmnpjalekailaa", sum := "0fb2bb248f76e93a1980c86134cda68130e3c291d84807dd4f4c5caa53d57b25", func := "contra/contralaw09.ItemRounds", spec := "itemRounds", apart := false }
def ItemRoundsSaid : Prop := itemRoundsRow.holds Try.pinned (OpenSpec.ofChange itemRoundsSpec)

/-- ITS FALSE NEIGHBOUR: 'it returns false'. Refute it at one input. -/
def itemRoundsWrong : ChangeSpec := { name := "itemRounds", fn := fun _ => fun
  | [d] => { results := [.lit (.bool false)], args := [d] }
  | _ => none }
def ItemRoundsWrongFalsely : Prop := itemRoundsRow.holds Try.pinned (OpenSpec.ofChange itemRoundsWrong)

/-- 'contralaw09.ItemRanks': WHATEVER THE INPUT: true; the input reads as it did. -/
def itemRanksSpec : ChangeSpec := { name := "itemRanks", fn := fun _ => fun
  | [d] => { results := [.lit (.bool true)], args := [d] }
  | _ => none }
def itemRanksRow : OpenClaim := { program := "ytbmnpjalekailaa", sum := "0fb2bb248f76e93a1980c86134cda68130e3c291d84807dd4f4c5caa53d57b25", func := "contra/contralaw09.ItemRanks", spec := "itemRanks", apart := false }
def ItemRanksSaid : Prop := itemRanksRow.holds Try.pinned (OpenSpec.ofChange itemRanksSpec)

/-- ITS FALSE NEIGHBOUR: 'it returns false'. Refute it at one input. -/
def itemRanksWrong : ChangeSpec := { name := "itemRanks", fn := fun _ => fun
  | [d] => { results := [.lit (.bool false)], args := [d] }
  | _ => none }
def ItemRanksWrongFalsely : Prop := itemRanksRow.holds Try.pinned (OpenSpec.ofChange itemRanksWrong)

/-- 'contralaw09.ItemLocks': WHATEVER THE INPUT: true; the input reads as it did. -/
def itemLocksSpec : ChangeSpec := { name := "itemLocks", fn := fun _ => fun
  | [d1, d2, d3] => { results := [.lit (.bool true)], args := [d1, d2, d3] }
  | _ => none }
def itemLocksRow : OpenClaim := { program := "ytbmnpjalekailaa", sum := "0fb2bb248f76e93a1980c86134cda68130e3c291d84807dd4f4c5caa53d57b25", func := "contra/contralaw09.ItemLocks", spec := "itemLocks", apart := false }
def ItemLocksSaid : Prop := itemLocksRow.holds Try.pinned (OpenSpec.ofChange itemLocksSpec)

/-- ITS FALSE NEIGHBOUR: 'it returns false'. Refute it at one input. -/
def itemLocksWrong : ChangeSpec := { name := "itemLocks", fn := fun _ => fun
  | [d1, d2, d3] => { results := [.lit (.bool false)], args := [d1, d2, d3] }
  | _ => none }
def ItemLocksWrongFalsely : Prop := itemLocksRow.holds Try.pinned (OpenSpec.ofChange itemLocksWrong)

/-- 'contralaw09.ItemActs': WHATEVER THE INPUT: true; the input reads as it did. -/
def itemActsSpec : ChangeSpec := { name := "itemActs", fn := fun _ => fun
  | [d1, d2, d3] => { results := [.lit (.bool true)], args := [d1, d2, d3] }
  | _ => none }
def itemActsRow : OpenClaim := { program := "ytbmnpjalekailaa", sum := "0fb2bb248f76e93a1980c86134cda68130e3c291d84807dd4f4c5caa53d57b25", func := "contra/contralaw09.ItemActs", spec := "itemActs", apart := false }
def ItemActsSaid : Prop := itemActsRow.holds Try.pinned (OpenSpec.ofChange itemActsSpec)

/-- ITS FALSE NEIGHBOUR: 'it returns false'. Refute it at one input. -/
def itemActsWrong : ChangeSpec := { name := "itemActs", fn := fun _ => fun
  | [d1, d2, d3] => { results := [.lit (.bool false)], args := [d1, d2, d3] }
  | _ => none }
def ItemActsWrongFalsely : Prop := itemActsRow.holds Try.pinned (OpenSpec.ofChange itemActsWrong)

/-- 'contralaw09.ItemForward': WHATEVER THE INPUT: true; the input reads as it did. -/
def itemForwardSpec : ChangeSpec := { name := "itemForward", fn := fun _ => fun
  | [d1, d2] => { results := [.lit (.bool true)], args := [d1, d2] }
  | _ => none }
def itemForwardRow : OpenClaim := { program := "ytbmnpjalekailaa", sum := "0fb2bb248f76e93a1980c86134cda68130e3c291d84807dd4f4c5caa53d57b25", func := "contra/contralaw09.ItemForward", spec := "itemForward", apart := false }
def ItemForwardSaid : Prop := itemForwardRow.holds Try.pinned (OpenSpec.ofChange itemForwardSpec)

/-- ITS FALSE NEIGHBOUR: 'it returns false'. Refute it at one input. -/
def itemForwardWrong : ChangeSpec := { name := "itemForward", fn := fun _ => fun
  | [d1, d2] => { results := [.lit (.bool false)], args := [d1, d2] }
  | _ => none }
def ItemForwardWrongFalsely : Prop := itemForwardRow.holds Try.pinned (OpenSpec.ofChange itemForwardWrong)

/- THE SECOND FORM. 'bulk': how many values and letters a reading holds, each counted each time it is reached (what is shared counts as often as it is met; a slice's spare places count too). A statement '..UptoSaid' is the law's where the arguments, and the package variables that the reading takes, are together of bulk at most 1048576: NARROWER than '..Said'. Prove '..Said' where nothing that the law and all that it calls make is longer than what came in: it says more and counts as full. Else prove '..UptoSaid'. A law counts once. -/
mutual
def uptoBulk {H : Type} : DataW H → Nat
  | .lit (.string bytes) => bytes.length + 1
  | .lit _ => 1
  | .nil => 1
  | .ptr d => uptoBulk d + 1
  | .slice elems spare => uptoBulkAll elems + uptoBulkAll spare + 1
  | .agg parts => uptoBulkAll parts + 1
  | .iface _ d => uptoBulk d + 1
  | .map entries => uptoBulkEntries entries + 1
  | .held _ => 1
def uptoBulkAll {H : Type} : List (DataW H) → Nat
  | [] => 0
  | d :: r => uptoBulk d + uptoBulkAll r
def uptoBulkEntries {H : Type} : List (Lit × DataW H) → Nat
  | [] => 0
  | x :: r => uptoBulkEntry x + uptoBulkEntries r
def uptoBulkEntry {H : Type} : Lit × DataW H → Nat
  | (.string bytes, d) => bytes.length + uptoBulk d + 1
  | (_, d) => uptoBulk d + 1
 end
def uptoSmall : (H : Type) → List (DataW H) → Bool := fun _ ds => decide (uptoBulkAll ds ≤ 1048576)
def OpenSpec.upto (s : _root_.Go.ChangeSpec) : _root_.Go.OpenSpec := { _root_.Go.OpenSpec.ofChange s with cond := some uptoSmall }

/-- 'contralaw09.ItemChecks', WHERE WHAT IT READS IS OF BULK AT MOST 1048576: true; the input reads as it did. -/
def itemChecksUptoRow : OpenClaim := { program := "ytbmnpjalekailaa", sum := "0fb2bb248f76e93a1980c86134cda68130e3c291d84807dd4f4c5caa53d57b25", func := "contra/contralaw09.ItemChecks", spec := "itemChecks", apart := false, narrowed := true }
def ItemChecksUptoSaid : Prop := itemChecksUptoRow.holds Try.pinned (OpenSpec.upto itemChecksSpec)

/-- 'contralaw09.ItemRounds', WHERE WHAT IT READS IS OF BULK AT MOST 1048576: true; the input reads as it did. -/
def itemRoundsUptoRow : OpenClaim := { program := "ytbmnpjalekailaa", sum := "0fb2bb248f76e93a1980c86134cda68130e3c291d84807dd4f4c5caa53d57b25", func := "contra/contralaw09.ItemRounds", spec := "itemRounds", apart := false, narrowed := true }
def ItemRoundsUptoSaid : Prop := itemRoundsUptoRow.holds Try.pinned (OpenSpec.upto itemRoundsSpec)

/-- 'contralaw09.ItemRanks', WHERE WHAT IT READS IS OF BULK AT MOST 1048576: true; the input reads as it did. -/
def itemRanksUptoRow : OpenClaim := { program := "ytbmnpjalekailaa", sum := "0fb2bb248f76e93a1980c86134cda68130e3c291d84807dd4f4c5caa53d57b25", func := "contra/contralaw09.ItemRanks", spec := "itemRanks", apart := false, narrowed := true }
def ItemRanksUptoSaid : Prop := itemRanksUptoRow.holds Try.pinned (OpenSpec.upto itemRanksSpec)

/-- 'contralaw09.ItemLocks', WHERE WHAT IT READS IS OF BULK AT MOST 1048576: true; the input reads as it did. -/
def itemLocksUptoRow : OpenClaim := { program := "ytbmnpjalekailaa", sum := "0fb2bb248f76e93a1980c86134cda68130e3c291d84807dd4f4c5caa53d57b25", func := "contra/contralaw09.ItemLocks", spec := "itemLocks", apart := false, narrowed := true }
def ItemLocksUptoSaid : Prop := itemLocksUptoRow.holds Try.pinned (OpenSpec.upto itemLocksSpec)

/-- 'contralaw09.ItemActs', WHERE WHAT IT READS IS OF BULK AT MOST 1048576: true; the input reads as it did. -/
def itemActsUptoRow : OpenClaim := { program := "ytbmnpjalekailaa", sum := "0fb2bb248f76e93a1980c86134cda68130e3c291d84807dd4f4c5caa53d57b25", func := "contra/contralaw09.ItemActs", spec := "itemActs", apart := false, narrowed := true }
def ItemActsUptoSaid : Prop := itemActsUptoRow.holds Try.pinned (OpenSpec.upto itemActsSpec)

/-- 'contralaw09.ItemForward', WHERE WHAT IT READS IS OF BULK AT MOST 1048576: true; the input reads as it did. -/
def itemForwardUptoRow : OpenClaim := { program := "ytbmnpjalekailaa", sum := "0fb2bb248f76e93a1980c86134cda68130e3c291d84807dd4f4c5caa53d57b25", func := "contra/contralaw09.ItemForward", spec := "itemForward", apart := false, narrowed := true }
def ItemForwardUptoSaid : Prop := itemForwardUptoRow.holds Try.pinned (OpenSpec.upto itemForwardSpec)

end Rows
end Go.Proofs.Ytbmnpjalekailaa
