/-
  No cell of these rows narrows 'for every input' (looked for: loops, veiled, ifaces, maps, wideKeys, modest, calm, conditions, laid).
  DERIVED. THE GIVEN ROWS OF THIS SEAT. 8 by the template 'for every input the law returns true; each argument reads behind the call as it read before'; 0 by the template 'total and deterministic' (their statements: YthgdojaildccaaaTotals.lean).
  GIVEN WITH THE SEED: the statements are not yours to turn. If you find one false, say at which input.
  Laid BY PROGRAM, IN A SANDBOX (cutbox-rows.mjs): the forced cells as the released guide's own fill.sh prints them over the translation 7784fbca1db69aee… (all of the seat's roots in one cut). By AI agents, Wed Nov 11 2026. No macro, syntax, notation, axiom, sorry.
-/
import Derived.Test.YthgdojaildccaaaChecked
import GoSem.Claim
import GoSem.ClaimJoined
import GoSem.ClaimMapViews
import Derived.JoinedTies
import Derived.KernelRfl
namespace Go.Proofs.Ythgdojaildccaaa
/- THE CELL 'sum', in the pinned program and in every row, IS THE sha256 OF THE DUMP (.gsa) THAT YthgdojaildccaaaProg.lean LOADS. Nothing in Lean hashes anything: it is a label: what it is worth is what the hold of that sum in a sandbox is worth. -/
noncomputable def Try.pinned : Pinned := { name := "ythgdojaildccaaa", sum := "7784fbca1db69aeec4ad86cad260c6ad8acee93e66012a09f486e2bb447dc377", checked := Try.checked }
namespace Rows
def none {H : Type} : Left H := { results := [], args := [] }

/-- 'contralaw13.NetPlays': WHATEVER THE INPUT: true; the input reads as it did. -/
def netPlaysSpec : ChangeSpec := { name := "netPlays", fn := fun _ => fun
  | [d] => { results := [.lit (.bool true)], args := [d] }
  | _ => none }
def netPlaysRow : OpenClaim := { program := "ythgdojaildccaaa", sum := "7784fbca1db69aeec4ad86cad260c6ad8acee93e66012a09f486e2bb447dc377", func := "contra/contralaw13.NetPlays", spec := "netPlays", apart := false }
def NetPlaysSaid : Prop := netPlaysRow.holds Try.pinned (OpenSpec.ofChange netPlaysSpec)

/-- ITS FALSE NEIGHBOUR: 'it returns false'. Refute it at one input. -/
def netPlaysWrong : ChangeSpec := { name := "netPlays", fn := fun _ => fun
  | [d] => { results := [.lit (.bool false)], args := [d] }
  | _ => none }
def NetPlaysWrongFalsely : Prop := netPlaysRow.holds Try.pinned (OpenSpec.ofChange netPlaysWrong)

/-- 'contralaw13.NetFull': WHATEVER THE INPUT: true; the input reads as it did. -/
def netFullSpec : ChangeSpec := { name := "netFull", fn := fun _ => fun
  | [d] => { results := [.lit (.bool true)], args := [d] }
  | _ => none }
def netFullRow : OpenClaim := { program := "ythgdojaildccaaa", sum := "7784fbca1db69aeec4ad86cad260c6ad8acee93e66012a09f486e2bb447dc377", func := "contra/contralaw13.NetFull", spec := "netFull", apart := false }
def NetFullSaid : Prop := netFullRow.holds Try.pinned (OpenSpec.ofChange netFullSpec)

/-- ITS FALSE NEIGHBOUR: 'it returns false'. Refute it at one input. -/
def netFullWrong : ChangeSpec := { name := "netFull", fn := fun _ => fun
  | [d] => { results := [.lit (.bool false)], args := [d] }
  | _ => none }
def NetFullWrongFalsely : Prop := netFullRow.holds Try.pinned (OpenSpec.ofChange netFullWrong)

/-- 'contralaw13.NetOwn': WHATEVER THE INPUT: true; the input reads as it did. -/
def netOwnSpec : ChangeSpec := { name := "netOwn", fn := fun _ => fun
  | [d] => { results := [.lit (.bool true)], args := [d] }
  | _ => none }
def netOwnRow : OpenClaim := { program := "ythgdojaildccaaa", sum := "7784fbca1db69aeec4ad86cad260c6ad8acee93e66012a09f486e2bb447dc377", func := "contra/contralaw13.NetOwn", spec := "netOwn", apart := false }
def NetOwnSaid : Prop := netOwnRow.holds Try.pinned (OpenSpec.ofChange netOwnSpec)

/-- ITS FALSE NEIGHBOUR: 'it returns false'. Refute it at one input. -/
def netOwnWrong : ChangeSpec := { name := "netOwn", fn := fun _ => fun
  | [d] => { results := [.lit (.bool false)], args := [d] }
  | _ => none }
def NetOwnWrongFalsely : Prop := netOwnRow.holds Try.pinned (OpenSpec.ofChange netOwnWrong)

/-- 'contralaw13.NetOrder': WHATEVER THE INPUT: true; the input reads as it did. -/
def netOrderSpec : ChangeSpec := { name := "netOrder", fn := fun _ => fun
  | [d1, d2] => { results := [.lit (.bool true)], args := [d1, d2] }
  | _ => none }
def netOrderRow : OpenClaim := { program := "ythgdojaildccaaa", sum := "7784fbca1db69aeec4ad86cad260c6ad8acee93e66012a09f486e2bb447dc377", func := "contra/contralaw13.NetOrder", spec := "netOrder", apart := false }
def NetOrderSaid : Prop := netOrderRow.holds Try.pinned (OpenSpec.ofChange netOrderSpec)

/-- ITS FALSE NEIGHBOUR: 'it returns false'. Refute it at one input. -/
def netOrderWrong : ChangeSpec := { name := "netOrder", fn := fun _ => fun
  | [d1, d2] => { results := [.lit (.bool false)], args := [d1, d2] }
  | _ => none }
def NetOrderWrongFalsely : Prop := netOrderRow.holds Try.pinned (OpenSpec.ofChange netOrderWrong)

/-- 'contralaw13.NetTwice': WHATEVER THE INPUT: true; the input reads as it did. -/
def netTwiceSpec : ChangeSpec := { name := "netTwice", fn := fun _ => fun
  | [d1, d2, d3] => { results := [.lit (.bool true)], args := [d1, d2, d3] }
  | _ => none }
def netTwiceRow : OpenClaim := { program := "ythgdojaildccaaa", sum := "7784fbca1db69aeec4ad86cad260c6ad8acee93e66012a09f486e2bb447dc377", func := "contra/contralaw13.NetTwice", spec := "netTwice", apart := false }
def NetTwiceSaid : Prop := netTwiceRow.holds Try.pinned (OpenSpec.ofChange netTwiceSpec)

/-- ITS FALSE NEIGHBOUR: 'it returns false'. Refute it at one input. -/
def netTwiceWrong : ChangeSpec := { name := "netTwice", fn := fun _ => fun
  | [d1, d2, d3] => { results := [.lit (.bool false)], args := [d1, d2, d3] }
  | _ => none }
def NetTwiceWrongFalsely : Prop := netTwiceRow.holds Try.pinned (OpenSpec.ofChange netTwiceWrong)

/-- 'contralaw12.LinkOnce': WHATEVER THE INPUT: true; the input reads as it did. -/
def linkOnceSpec : ChangeSpec := { name := "linkOnce", fn := fun _ => fun
  | [d1, d2] => { results := [.lit (.bool true)], args := [d1, d2] }
  | _ => none }
def linkOnceRow : OpenClaim := { program := "ythgdojaildccaaa", sum := "7784fbca1db69aeec4ad86cad260c6ad8acee93e66012a09f486e2bb447dc377", func := "contra/contralaw12.LinkOnce", spec := "linkOnce", apart := false }
def LinkOnceSaid : Prop := linkOnceRow.holds Try.pinned (OpenSpec.ofChange linkOnceSpec)

/-- ITS FALSE NEIGHBOUR: 'it returns false'. Refute it at one input. -/
def linkOnceWrong : ChangeSpec := { name := "linkOnce", fn := fun _ => fun
  | [d1, d2] => { results := [.lit (.bool false)], args := [d1, d2] }
  | _ => none }
def LinkOnceWrongFalsely : Prop := linkOnceRow.holds Try.pinned (OpenSpec.ofChange linkOnceWrong)

/-- 'contralaw12.LinkBoth': WHATEVER THE INPUT: true; the input reads as it did. -/
def linkBothSpec : ChangeSpec := { name := "linkBoth", fn := fun _ => fun
  | [d1, d2, d3] => { results := [.lit (.bool true)], args := [d1, d2, d3] }
  | _ => none }
def linkBothRow : OpenClaim := { program := "ythgdojaildccaaa", sum := "7784fbca1db69aeec4ad86cad260c6ad8acee93e66012a09f486e2bb447dc377", func := "contra/contralaw12.LinkBoth", spec := "linkBoth", apart := false }
def LinkBothSaid : Prop := linkBothRow.holds Try.pinned (OpenSpec.ofChange linkBothSpec)

/-- ITS FALSE NEIGHBOUR: 'it returns false'. Refute it at one input. -/
def linkBothWrong : ChangeSpec := { name := "linkBoth", fn := fun _ => fun
  | [d1, d2, d3] => { results := [.lit (.bool false)], args := [d1, d2, d3] }
  | _ => none }
def LinkBothWrongFalsely : Prop := linkBothRow.holds Try.pinned (OpenSpec.ofChange linkBothWrong)

/-- 'contralaw12.LinkRange': WHATEVER THE INPUT: true; the input reads as it did. -/
def linkRangeSpec : ChangeSpec := { name := "linkRange", fn := fun _ => fun
  | [d1, d2, d3] => { results := [.lit (.bool true)], args := [d1, d2, d3] }
  | _ => none }
def linkRangeRow : OpenClaim := { program := "ythgdojaildccaaa", sum := "7784fbca1db69aeec4ad86cad260c6ad8acee93e66012a09f486e2bb447dc377", func := "contra/contralaw12.LinkRange", spec := "linkRange", apart := false }
def LinkRangeSaid : Prop := linkRangeRow.holds Try.pinned (OpenSpec.ofChange linkRangeSpec)

/-- ITS FALSE NEIGHBOUR: 'it returns false'. Refute it at one input. -/
def linkRangeWrong : ChangeSpec := { name := "linkRange", fn := fun _ => fun
  | [d1, d2, d3] => { results := [.lit (.bool false)], args := [d1, d2, d3] }
  | _ => none }
def LinkRangeWrongFalsely : Prop := linkRangeRow.holds Try.pinned (OpenSpec.ofChange linkRangeWrong)

/- THE SECOND FORM. 'bulk': how many values and letters a reading holds, each counted each time it is reached (what is shared counts as often as it is met; a slice's spare places count too). A statement '..UptoSaid' is the law's where the arguments, and the package variables that the reading takes, are together of bulk at most 1048576: NARROWER than '..Said'. Prove '..Said' where nothing that the law and all that it calls make is longer than what came in: it says more and counts as full. Else prove '..UptoSaid'. A law counts once. -/
mutual
def uptoBulk {H : Type} : DataW H → Nat
  | .lit (.string bytes) => bytes.length + 1
  | .lit _ => 1
  | .nil => 1
  | .ptr d => uptoBulk d + 1
  | .slice elems spare => uptoBulkAll elems + uptoBulkAll spare + 1
  | .agg parts => uptoBulkAll parts + 1
  | .iface _ d => uptoBulk d + 1
  | .map entries => uptoBulkEntries entries + 1
  | .held _ => 1
def uptoBulkAll {H : Type} : List (DataW H) → Nat
  | [] => 0
  | d :: r => uptoBulk d + uptoBulkAll r
def uptoBulkEntries {H : Type} : List (Lit × DataW H) → Nat
  | [] => 0
  | x :: r => uptoBulkEntry x + uptoBulkEntries r
def uptoBulkEntry {H : Type} : Lit × DataW H → Nat
  | (.string bytes, d) => bytes.length + uptoBulk d + 1
  | (_, d) => uptoBulk d + 1
 end
def uptoSmall : (H : Type) → List (DataW H) → Bool := fun _ ds => decide (uptoBulkAll ds ≤ 1048576)
def OpenSpec.upto (s : _root_.Go.ChangeSpec) : _root_.Go.OpenSpec := { _root_.Go.OpenSpec.ofChange s with cond := some uptoSmall }

/-- 'contralaw13.NetPlays', WHERE WHAT IT READS IS OF BULK AT MOST 1048576: true; the input reads as it did. -/
def netPlaysUptoRow : OpenClaim := { program := "ythgdojaildccaaa", sum := "7784fbca1db69aeec4ad86cad260c6ad8acee93e66012a09f486e2bb447dc377", func := "contra/contralaw13.NetPlays", spec := "netPlays", apart := false, narrowed := true }
def NetPlaysUptoSaid : Prop := netPlaysUptoRow.holds Try.pinned (OpenSpec.upto netPlaysSpec)

/-- 'contralaw13.NetFull', WHERE WHAT IT READS IS OF BULK AT MOST 1048576: true; the input reads as it did. -/
def netFullUptoRow : OpenClaim := { program := "ythgdojaildccaaa", sum := "7784fbca1db69aeec4ad86cad260c6ad8acee93e66012a09f486e2bb447dc377", func := "contra/contralaw13.NetFull", spec := "netFull", apart := false, narrowed := true }
def NetFullUptoSaid : Prop := netFullUptoRow.holds Try.pinned (OpenSpec.upto netFullSpec)

/-- 'contralaw13.NetOwn', WHERE WHAT IT READS IS OF BULK AT MOST 1048576: true; the input reads as it did. -/
def netOwnUptoRow : OpenClaim := { program := "ythgdojaildccaaa", sum := "7784fbca1db69aeec4ad86cad260c6ad8acee93e66012a09f486e2bb447dc377", func := "contra/contralaw13.NetOwn", spec := "netOwn", apart := false, narrowed := true }
def NetOwnUptoSaid : Prop := netOwnUptoRow.holds Try.pinned (OpenSpec.upto netOwnSpec)

/-- 'contralaw13.NetOrder', WHERE WHAT IT READS IS OF BULK AT MOST 1048576: true; the input reads as it did. -/
def netOrderUptoRow : OpenClaim := { program := "ythgdojaildccaaa", sum := "7784fbca1db69aeec4ad86cad260c6ad8acee93e66012a09f486e2bb447dc377", func := "contra/contralaw13.NetOrder", spec := "netOrder", apart := false, narrowed := true }
def NetOrderUptoSaid : Prop := netOrderUptoRow.holds Try.pinned (OpenSpec.upto netOrderSpec)

/-- 'contralaw13.NetTwice', WHERE WHAT IT READS IS OF BULK AT MOST 1048576: true; the input reads as it did. -/
def netTwiceUptoRow : OpenClaim := { program := "ythgdojaildccaaa", sum := "7784fbca1db69aeec4ad86cad260c6ad8acee93e66012a09f486e2bb447dc377", func := "contra/contralaw13.NetTwice", spec := "netTwice", apart := false, narrowed := true }
def NetTwiceUptoSaid : Prop := netTwiceUptoRow.holds Try.pinned (OpenSpec.upto netTwiceSpec)

/-- 'contralaw12.LinkOnce', WHERE WHAT IT READS IS OF BULK AT MOST 1048576: true; the input reads as it did. -/
def linkOnceUptoRow : OpenClaim := { program := "ythgdojaildccaaa", sum := "7784fbca1db69aeec4ad86cad260c6ad8acee93e66012a09f486e2bb447dc377", func := "contra/contralaw12.LinkOnce", spec := "linkOnce", apart := false, narrowed := true }
def LinkOnceUptoSaid : Prop := linkOnceUptoRow.holds Try.pinned (OpenSpec.upto linkOnceSpec)

/-- 'contralaw12.LinkBoth', WHERE WHAT IT READS IS OF BULK AT MOST 1048576: true; the input reads as it did. -/
def linkBothUptoRow : OpenClaim := { program := "ythgdojaildccaaa", sum := "7784fbca1db69aeec4ad86cad260c6ad8acee93e66012a09f486e2bb447dc377", func := "contra/contralaw12.LinkBoth", spec := "linkBoth", apart := false, narrowed := true }
def LinkBothUptoSaid : Prop := linkBothUptoRow.holds Try.pinned (OpenSpec.upto linkBothSpec)

/-- 'contralaw12.LinkRange', WHERE WHAT IT READS IS OF BULK AT MOST 1048576: true; the input reads as it did. -/
def linkRangeUptoRow : OpenClaim := { program := "ythgdojaildccaaa", sum := "7784fbca1db69aeec4ad86cad260c6ad8acee93e66012a09f486e2bb447dc377", func := "contra/contralaw12.LinkRange", spec := "linkRange", apart := false, narrowed := true }
def LinkRangeUptoSaid : Prop := linkRangeUptoRow.holds Try.pinned (OpenSpec.upto linkRangeSpec)

end Rows
end Go.Proofs.Ythgdojaildccaaa
