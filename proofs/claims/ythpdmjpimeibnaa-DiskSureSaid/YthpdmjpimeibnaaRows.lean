/-
  No cell of these rows narrows 'for every input' (looked for: loops, veiled, ifaces, maps, wideKeys, modest, calm, conditions, laid).
  DERIVED. THE GIVEN ROWS OF THIS SEAT. 9 by the template 'for every input the law returns true; each argument reads behind the call as it read before'; 0 by the template 'total and deterministic' (their statements: YthpdmjpimeibnaaTotals.lean).
  GIVEN WITH THE SEED: the statements are not yours to turn. If you find one false, say at which input.
  Laid BY PROGRAM, IN A SANDBOX (cutbox-rows.mjs): the forced cells as the released guide's own fill.sh prints them over the translation 3bde36fd124f5015… (all of the seat's roots in one cut). By AI agents, Wed Nov 11 2026. No macro, syntax, notation, axiom, sorry.
-/
import Derived.Test.YthpdmjpimeibnaaChecked
import GoSem.Claim
import GoSem.ClaimJoined
import GoSem.ClaimMapViews
import Derived.JoinedTies
import Derived.KernelRfl
namespace Go.Proofs.Ythpdmjpimeibnaa
/- THE CELL 'sum', in the pinned program and in every row, IS THE sha256 OF THE DUMP (.gsa) THAT YthpdmjpimeibnaaProg.lean LOADS. Nothing in Lean hashes anything: it is a label: what it is worth is what the hold of that sum in a sandbox is worth. -/
noncomputable def Try.pinned : Pinned := { name := "ythpdmjpimeibnaa", sum := "3bde36fd124f50151fdf21d17574e0cd268cb37faf324c3500f8d77887f6a519", checked := Try.checked }
namespace Rows
def none {H : Type} : Left H := { results := [], args := [] }

/-- 'contralaw06.DiskTorn': WHATEVER THE INPUT: true; the input reads as it did. -/
def diskTornSpec : ChangeSpec := { name := "diskTorn", fn := fun _ => fun
  | [d1, d2, d3] => { results := [.lit (.bool true)], args := [d1, d2, d3] }
  | _ => none }
def diskTornRow : OpenClaim := { program := "ythpdmjpimeibnaa", sum := "3bde36fd124f50151fdf21d17574e0cd268cb37faf324c3500f8d77887f6a519", func := "contra/contralaw06.DiskTorn", spec := "diskTorn", apart := false }
def DiskTornSaid : Prop := diskTornRow.holds Try.pinned (OpenSpec.ofChange diskTornSpec)

/-- ITS FALSE NEIGHBOUR: 'it returns false'. Refute it at one input. -/
def diskTornWrong : ChangeSpec := { name := "diskTorn", fn := fun _ => fun
  | [d1, d2, d3] => { results := [.lit (.bool false)], args := [d1, d2, d3] }
  | _ => none }
def DiskTornWrongFalsely : Prop := diskTornRow.holds Try.pinned (OpenSpec.ofChange diskTornWrong)

/-- 'contralaw06.DiskDown': WHATEVER THE INPUT: true; the input reads as it did. -/
def diskDownSpec : ChangeSpec := { name := "diskDown", fn := fun _ => fun
  | [d1, d2] => { results := [.lit (.bool true)], args := [d1, d2] }
  | _ => none }
def diskDownRow : OpenClaim := { program := "ythpdmjpimeibnaa", sum := "3bde36fd124f50151fdf21d17574e0cd268cb37faf324c3500f8d77887f6a519", func := "contra/contralaw06.DiskDown", spec := "diskDown", apart := false }
def DiskDownSaid : Prop := diskDownRow.holds Try.pinned (OpenSpec.ofChange diskDownSpec)

/-- ITS FALSE NEIGHBOUR: 'it returns false'. Refute it at one input. -/
def diskDownWrong : ChangeSpec := { name := "diskDown", fn := fun _ => fun
  | [d1, d2] => { results := [.lit (.bool false)], args := [d1, d2] }
  | _ => none }
def DiskDownWrongFalsely : Prop := diskDownRow.holds Try.pinned (OpenSpec.ofChange diskDownWrong)

/-- 'contralaw06.DiskSure': WHATEVER THE INPUT: true; the input reads as it did. -/
def diskSureSpec : ChangeSpec := { name := "diskSure", fn := fun _ => fun
  | [d1, d2] => { results := [.lit (.bool true)], args := [d1, d2] }
  | _ => none }
def diskSureRow : OpenClaim := { program := "ythpdmjpimeibnaa", sum := "3bde36fd124f50151fdf21d17574e0cd268cb37faf324c3500f8d77887f6a519", func := "contra/contralaw06.DiskSure", spec := "diskSure", apart := false }
def DiskSureSaid : Prop := diskSureRow.holds Try.pinned (OpenSpec.ofChange diskSureSpec)

/-- ITS FALSE NEIGHBOUR: 'it returns false'. Refute it at one input. -/
def diskSureWrong : ChangeSpec := { name := "diskSure", fn := fun _ => fun
  | [d1, d2] => { results := [.lit (.bool false)], args := [d1, d2] }
  | _ => none }
def DiskSureWrongFalsely : Prop := diskSureRow.holds Try.pinned (OpenSpec.ofChange diskSureWrong)

/-- 'contralaw06.DiskRenews': WHATEVER THE INPUT: true; the input reads as it did. -/
def diskRenewsSpec : ChangeSpec := { name := "diskRenews", fn := fun _ => fun
  | [d1, d2, d3] => { results := [.lit (.bool true)], args := [d1, d2, d3] }
  | _ => none }
def diskRenewsRow : OpenClaim := { program := "ythpdmjpimeibnaa", sum := "3bde36fd124f50151fdf21d17574e0cd268cb37faf324c3500f8d77887f6a519", func := "contra/contralaw06.DiskRenews", spec := "diskRenews", apart := false }
def DiskRenewsSaid : Prop := diskRenewsRow.holds Try.pinned (OpenSpec.ofChange diskRenewsSpec)

/-- ITS FALSE NEIGHBOUR: 'it returns false'. Refute it at one input. -/
def diskRenewsWrong : ChangeSpec := { name := "diskRenews", fn := fun _ => fun
  | [d1, d2, d3] => { results := [.lit (.bool false)], args := [d1, d2, d3] }
  | _ => none }
def DiskRenewsWrongFalsely : Prop := diskRenewsRow.holds Try.pinned (OpenSpec.ofChange diskRenewsWrong)

/-- 'contralaw07.WalFull': WHATEVER THE INPUT: true; the input reads as it did. -/
def walFullSpec : ChangeSpec := { name := "walFull", fn := fun _ => fun
  | [d1, d2] => { results := [.lit (.bool true)], args := [d1, d2] }
  | _ => none }
def walFullRow : OpenClaim := { program := "ythpdmjpimeibnaa", sum := "3bde36fd124f50151fdf21d17574e0cd268cb37faf324c3500f8d77887f6a519", func := "contra/contralaw07.WalFull", spec := "walFull", apart := false }
def WalFullSaid : Prop := walFullRow.holds Try.pinned (OpenSpec.ofChange walFullSpec)

/-- ITS FALSE NEIGHBOUR: 'it returns false'. Refute it at one input. -/
def walFullWrong : ChangeSpec := { name := "walFull", fn := fun _ => fun
  | [d1, d2] => { results := [.lit (.bool false)], args := [d1, d2] }
  | _ => none }
def WalFullWrongFalsely : Prop := walFullRow.holds Try.pinned (OpenSpec.ofChange walFullWrong)

/-- 'contralaw07.WalRows': WHATEVER THE INPUT: true; the input reads as it did. -/
def walRowsSpec : ChangeSpec := { name := "walRows", fn := fun _ => fun
  | [d1, d2] => { results := [.lit (.bool true)], args := [d1, d2] }
  | _ => none }
def walRowsRow : OpenClaim := { program := "ythpdmjpimeibnaa", sum := "3bde36fd124f50151fdf21d17574e0cd268cb37faf324c3500f8d77887f6a519", func := "contra/contralaw07.WalRows", spec := "walRows", apart := false }
def WalRowsSaid : Prop := walRowsRow.holds Try.pinned (OpenSpec.ofChange walRowsSpec)

/-- ITS FALSE NEIGHBOUR: 'it returns false'. Refute it at one input. -/
def walRowsWrong : ChangeSpec := { name := "walRows", fn := fun _ => fun
  | [d1, d2] => { results := [.lit (.bool false)], args := [d1, d2] }
  | _ => none }
def WalRowsWrongFalsely : Prop := walRowsRow.holds Try.pinned (OpenSpec.ofChange walRowsWrong)

/-- 'contralaw07.WalTwice': WHATEVER THE INPUT: true; the input reads as it did. -/
def walTwiceSpec : ChangeSpec := { name := "walTwice", fn := fun _ => fun
  | [d] => { results := [.lit (.bool true)], args := [d] }
  | _ => none }
def walTwiceRow : OpenClaim := { program := "ythpdmjpimeibnaa", sum := "3bde36fd124f50151fdf21d17574e0cd268cb37faf324c3500f8d77887f6a519", func := "contra/contralaw07.WalTwice", spec := "walTwice", apart := false }
def WalTwiceSaid : Prop := walTwiceRow.holds Try.pinned (OpenSpec.ofChange walTwiceSpec)

/-- ITS FALSE NEIGHBOUR: 'it returns false'. Refute it at one input. -/
def walTwiceWrong : ChangeSpec := { name := "walTwice", fn := fun _ => fun
  | [d] => { results := [.lit (.bool false)], args := [d] }
  | _ => none }
def WalTwiceWrongFalsely : Prop := walTwiceRow.holds Try.pinned (OpenSpec.ofChange walTwiceWrong)

/-- 'contralaw07.WalDown': WHATEVER THE INPUT: true; the input reads as it did. -/
def walDownSpec : ChangeSpec := { name := "walDown", fn := fun _ => fun
  | [d] => { results := [.lit (.bool true)], args := [d] }
  | _ => none }
def walDownRow : OpenClaim := { program := "ythpdmjpimeibnaa", sum := "3bde36fd124f50151fdf21d17574e0cd268cb37faf324c3500f8d77887f6a519", func := "contra/contralaw07.WalDown", spec := "walDown", apart := false }
def WalDownSaid : Prop := walDownRow.holds Try.pinned (OpenSpec.ofChange walDownSpec)

/-- ITS FALSE NEIGHBOUR: 'it returns false'. Refute it at one input. -/
def walDownWrong : ChangeSpec := { name := "walDown", fn := fun _ => fun
  | [d] => { results := [.lit (.bool false)], args := [d] }
  | _ => none }
def WalDownWrongFalsely : Prop := walDownRow.holds Try.pinned (OpenSpec.ofChange walDownWrong)

/-- 'contratop.WholeTorn': WHATEVER THE INPUT: true; the input reads as it did. -/
def wholeTornSpec : ChangeSpec := { name := "wholeTorn", fn := fun _ => fun
  | [d1, d2, d3] => { results := [.lit (.bool true)], args := [d1, d2, d3] }
  | _ => none }
def wholeTornRow : OpenClaim := { program := "ythpdmjpimeibnaa", sum := "3bde36fd124f50151fdf21d17574e0cd268cb37faf324c3500f8d77887f6a519", func := "contra/contratop.WholeTorn", spec := "wholeTorn", apart := false }
def WholeTornSaid : Prop := wholeTornRow.holds Try.pinned (OpenSpec.ofChange wholeTornSpec)

/-- ITS FALSE NEIGHBOUR: 'it returns false'. Refute it at one input. -/
def wholeTornWrong : ChangeSpec := { name := "wholeTorn", fn := fun _ => fun
  | [d1, d2, d3] => { results := [.lit (.bool false)], args := [d1, d2, d3] }
  | _ => none }
def WholeTornWrongFalsely : Prop := wholeTornRow.holds Try.pinned (OpenSpec.ofChange wholeTornWrong)

/- THE SECOND FORM. 'bulk': how many values and letters a reading holds, each counted each time it is reached (what is shared counts as often as it is met; a slice's spare places count too). A statement '..UptoSaid' is the law's where the arguments, and the package variables that the reading takes, are together of bulk at most 1048576: NARROWER than '..Said'. Prove '..Said' where nothing that the law and all that it calls make is longer than what came in: it says more and counts as full. Else prove '..UptoSaid'. A law counts once. -/
mutual
def uptoBulk {H : Type} : DataW H → Nat
  | .lit (.string bytes) => bytes.length + 1
  | .lit _ => 1
  | .nil => 1
  | .ptr d => uptoBulk d + 1
  | .slice elems spare => uptoBulkAll elems + uptoBulkAll spare + 1
  | .agg parts => uptoBulkAll parts + 1
  | .iface _ d => uptoBulk d + 1
  | .map entries => uptoBulkEntries entries + 1
  | .held _ => 1
def uptoBulkAll {H : Type} : List (DataW H) → Nat
  | [] => 0
  | d :: r => uptoBulk d + uptoBulkAll r
def uptoBulkEntries {H : Type} : List (Lit × DataW H) → Nat
  | [] => 0
  | x :: r => uptoBulkEntry x + uptoBulkEntries r
def uptoBulkEntry {H : Type} : Lit × DataW H → Nat
  | (.string bytes, d) => bytes.length + uptoBulk d + 1
  | (_, d) => uptoBulk d + 1
 end
def uptoSmall : (H : Type) → List (DataW H) → Bool := fun _ ds => decide (uptoBulkAll ds ≤ 1048576)
def OpenSpec.upto (s : _root_.Go.ChangeSpec) : _root_.Go.OpenSpec := { _root_.Go.OpenSpec.ofChange s with cond := some uptoSmall }

/-- 'contralaw06.DiskTorn', WHERE WHAT IT READS IS OF BULK AT MOST 1048576: true; the input reads as it did. -/
def diskTornUptoRow : OpenClaim := { program := "ythpdmjpimeibnaa", sum := "3bde36fd124f50151fdf21d17574e0cd268cb37faf324c3500f8d77887f6a519", func := "contra/contralaw06.DiskTorn", spec := "diskTorn", apart := false, narrowed := true }
def DiskTornUptoSaid : Prop := diskTornUptoRow.holds Try.pinned (OpenSpec.upto diskTornSpec)

/-- 'contralaw06.DiskDown', WHERE WHAT IT READS IS OF BULK AT MOST 1048576: true; the input reads as it did. -/
def diskDownUptoRow : OpenClaim := { program := "ythpdmjpimeibnaa", sum := "3bde36fd124f50151fdf21d17574e0cd268cb37faf324c3500f8d77887f6a519", func := "contra/contralaw06.DiskDown", spec := "diskDown", apart := false, narrowed := true }
def DiskDownUptoSaid : Prop := diskDownUptoRow.holds Try.pinned (OpenSpec.upto diskDownSpec)

/-- 'contralaw06.DiskSure', WHERE WHAT IT READS IS OF BULK AT MOST 1048576: true; the input reads as it did. -/
def diskSureUptoRow : OpenClaim := { program := "ythpdmjpimeibnaa", sum := "3bde36fd124f50151fdf21d17574e0cd268cb37faf324c3500f8d77887f6a519", func := "contra/contralaw06.DiskSure", spec := "diskSure", apart := false, narrowed := true }
def DiskSureUptoSaid : Prop := diskSureUptoRow.holds Try.pinned (OpenSpec.upto diskSureSpec)

/-- 'contralaw06.DiskRenews', WHERE WHAT IT READS IS OF BULK AT MOST 1048576: true; the input reads as it did. -/
def diskRenewsUptoRow : OpenClaim := { program := "ythpdmjpimeibnaa", sum := "3bde36fd124f50151fdf21d17574e0cd268cb37faf324c3500f8d77887f6a519", func := "contra/contralaw06.DiskRenews", spec := "diskRenews", apart := false, narrowed := true }
def DiskRenewsUptoSaid : Prop := diskRenewsUptoRow.holds Try.pinned (OpenSpec.upto diskRenewsSpec)

/-- 'contralaw07.WalFull', WHERE WHAT IT READS IS OF BULK AT MOST 1048576: true; the input reads as it did. -/
def walFullUptoRow : OpenClaim := { program := "ythpdmjpimeibnaa", sum := "3bde36fd124f50151fdf21d17574e0cd268cb37faf324c3500f8d77887f6a519", func := "contra/contralaw07.WalFull", spec := "walFull", apart := false, narrowed := true }
def WalFullUptoSaid : Prop := walFullUptoRow.holds Try.pinned (OpenSpec.upto walFullSpec)

/-- 'contralaw07.WalRows', WHERE WHAT IT READS IS OF BULK AT MOST 1048576: true; the input reads as it did. -/
def walRowsUptoRow : OpenClaim := { program := "ythpdmjpimeibnaa", sum := "3bde36fd124f50151fdf21d17574e0cd268cb37faf324c3500f8d77887f6a519", func := "contra/contralaw07.WalRows", spec := "walRows", apart := false, narrowed := true }
def WalRowsUptoSaid : Prop := walRowsUptoRow.holds Try.pinned (OpenSpec.upto walRowsSpec)

/-- 'contralaw07.WalTwice', WHERE WHAT IT READS IS OF BULK AT MOST 1048576: true; the input reads as it did. -/
def walTwiceUptoRow : OpenClaim := { program := "ythpdmjpimeibnaa", sum := "3bde36fd124f50151fdf21d17574e0cd268cb37faf324c3500f8d77887f6a519", func := "contra/contralaw07.WalTwice", spec := "walTwice", apart := false, narrowed := true }
def WalTwiceUptoSaid : Prop := walTwiceUptoRow.holds Try.pinned (OpenSpec.upto walTwiceSpec)

/-- 'contralaw07.WalDown', WHERE WHAT IT READS IS OF BULK AT MOST 1048576: true; the input reads as it did. -/
def walDownUptoRow : OpenClaim := { program := "ythpdmjpimeibnaa", sum := "3bde36fd124f50151fdf21d17574e0cd268cb37faf324c3500f8d77887f6a519", func := "contra/contralaw07.WalDown", spec := "walDown", apart := false, narrowed := true }
def WalDownUptoSaid : Prop := walDownUptoRow.holds Try.pinned (OpenSpec.upto walDownSpec)

/-- 'contratop.WholeTorn', WHERE WHAT IT READS IS OF BULK AT MOST 1048576: true; the input reads as it did. -/
def wholeTornUptoRow : OpenClaim := { program := "ythpdmjpimeibnaa", sum := "3bde36fd124f50151fdf21d17574e0cd268cb37faf324c3500f8d77887f6a519", func := "contra/contratop.WholeTorn", spec := "wholeTorn", apart := false, narrowed := true }
def WholeTornUptoSaid : Prop := wholeTornUptoRow.holds Try.pinned (OpenSpec.upto wholeTornSpec)

end Rows
end Go.Proofs.Ythpdmjpimeibnaa
