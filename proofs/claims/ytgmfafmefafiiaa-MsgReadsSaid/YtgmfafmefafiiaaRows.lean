/-
  No cell of these rows narrows 'for every input' (looked for: loops, veiled, ifaces, maps, wideKeys, modest, calm, conditions, laid).
  DERIVED. THE GIVEN ROWS OF THIS SEAT. 7 by the template 'for every input the law returns true; each argument reads behind the call as it read before'; 0 by the template 'total and deterministic' (their statements: YtgmfafmefafiiaaTotals.lean).
  GIVEN WITH THE SEED: the statements are not yours to turn. If you find one false, say at which input.
  Laid BY PROGRAM, IN A SANDBOX (cutbox-rows.mjs): the forced cells as the released guide's own fill.sh prints them over the translation b8d0a7c211193423… (all of the seat's roots in one cut). By AI agents, Wed Nov 11 2026. No macro, syntax, notation, axiom, sorry.
-/
import Derived.Test.YtgmfafmefafiiaaChecked
import GoSem.Claim
import GoSem.ClaimJoined
import GoSem.ClaimMapViews
import Derived.JoinedTies
import Derived.KernelRfl
namespace Go.Proofs.Ytgmfafmefafiiaa
/- THE CELL 'sum', in the pinned program and in every row, IS THE sha256 OF THE DUMP (.gsa) THAT YtgmfafmefafiiaaProg.lean LOADS. Nothing in Lean hashes anything: it is a label: what it is worth is what the hold of that sum in a sandbox is worth. -/
noncomputable def Try.pinned : Pinned := { name := "ytgmfafmefafiiaa", sum := "b8d0a7c211193423effbfd73974c3e3c4d7c891ddff2bb073f7f5d00ffa965d8", checked := Try.checked }
namespace Rows
def none {H : Type} : Left H := { results := [], args := [] }

/-- 'contralaw11.MsgWrites': WHATEVER THE INPUT: true; the input reads as it did. -/
def msgWritesSpec : ChangeSpec := { name := "msgWrites", fn := fun _ => fun
  | [d1, d2] => { results := [.lit (.bool true)], args := [d1, d2] }
  | _ => none }
def msgWritesRow : OpenClaim := { program := "ytgmfafmefafiiaa", sum := "b8d0a7c211193423effbfd73974c3e3c4d7c891ddff2bb073f7f5d00ffa965d8", func := "contra/contralaw11.MsgWrites", spec := "msgWrites", unfollowed := true, recurses := true, apart := false }
def MsgWritesSaid : Prop := msgWritesRow.holds Try.pinned (OpenSpec.ofChange msgWritesSpec)

/-- ITS FALSE NEIGHBOUR: 'it returns false'. Refute it at one input. -/
def msgWritesWrong : ChangeSpec := { name := "msgWrites", fn := fun _ => fun
  | [d1, d2] => { results := [.lit (.bool false)], args := [d1, d2] }
  | _ => none }
def MsgWritesWrongFalsely : Prop := msgWritesRow.holds Try.pinned (OpenSpec.ofChange msgWritesWrong)

/-- 'contralaw11.MsgReads': WHATEVER THE INPUT: true; the input reads as it did. -/
def msgReadsSpec : ChangeSpec := { name := "msgReads", fn := fun _ => fun
  | [d] => { results := [.lit (.bool true)], args := [d] }
  | _ => none }
def msgReadsRow : OpenClaim := { program := "ytgmfafmefafiiaa", sum := "b8d0a7c211193423effbfd73974c3e3c4d7c891ddff2bb073f7f5d00ffa965d8", func := "contra/contralaw11.MsgReads", spec := "msgReads", unfollowed := true, recurses := true, apart := false }
def MsgReadsSaid : Prop := msgReadsRow.holds Try.pinned (OpenSpec.ofChange msgReadsSpec)

/-- ITS FALSE NEIGHBOUR: 'it returns false'. Refute it at one input. -/
def msgReadsWrong : ChangeSpec := { name := "msgReads", fn := fun _ => fun
  | [d] => { results := [.lit (.bool false)], args := [d] }
  | _ => none }
def MsgReadsWrongFalsely : Prop := msgReadsRow.holds Try.pinned (OpenSpec.ofChange msgReadsWrong)

/-- 'contralaw11.MsgRows': WHATEVER THE INPUT: true; the input reads as it did. -/
def msgRowsSpec : ChangeSpec := { name := "msgRows", fn := fun _ => fun
  | [d] => { results := [.lit (.bool true)], args := [d] }
  | _ => none }
def msgRowsRow : OpenClaim := { program := "ytgmfafmefafiiaa", sum := "b8d0a7c211193423effbfd73974c3e3c4d7c891ddff2bb073f7f5d00ffa965d8", func := "contra/contralaw11.MsgRows", spec := "msgRows", unfollowed := true, recurses := true, apart := false }
def MsgRowsSaid : Prop := msgRowsRow.holds Try.pinned (OpenSpec.ofChange msgRowsSpec)

/-- ITS FALSE NEIGHBOUR: 'it returns false'. Refute it at one input. -/
def msgRowsWrong : ChangeSpec := { name := "msgRows", fn := fun _ => fun
  | [d] => { results := [.lit (.bool false)], args := [d] }
  | _ => none }
def MsgRowsWrongFalsely : Prop := msgRowsRow.holds Try.pinned (OpenSpec.ofChange msgRowsWrong)

/-- 'contralaw11.MsgOwn': WHATEVER THE INPUT: true; the input reads as it did. -/
def msgOwnSpec : ChangeSpec := { name := "msgOwn", fn := fun _ => fun
  | [d] => { results := [.lit (.bool true)], args := [d] }
  | _ => none }
def msgOwnRow : OpenClaim := { program := "ytgmfafmefafiiaa", sum := "b8d0a7c211193423effbfd73974c3e3c4d7c891ddff2bb073f7f5d00ffa965d8", func := "contra/contralaw11.MsgOwn", spec := "msgOwn", unfollowed := true, recurses := true, apart := false }
def MsgOwnSaid : Prop := msgOwnRow.holds Try.pinned (OpenSpec.ofChange msgOwnSpec)

/-- ITS FALSE NEIGHBOUR: 'it returns false'. Refute it at one input. -/
def msgOwnWrong : ChangeSpec := { name := "msgOwn", fn := fun _ => fun
  | [d] => { results := [.lit (.bool false)], args := [d] }
  | _ => none }
def MsgOwnWrongFalsely : Prop := msgOwnRow.holds Try.pinned (OpenSpec.ofChange msgOwnWrong)

/-- 'contralaw11.MsgShort': WHATEVER THE INPUT: true; the input reads as it did. -/
def msgShortSpec : ChangeSpec := { name := "msgShort", fn := fun _ => fun
  | [d1, d2] => { results := [.lit (.bool true)], args := [d1, d2] }
  | _ => none }
def msgShortRow : OpenClaim := { program := "ytgmfafmefafiiaa", sum := "b8d0a7c211193423effbfd73974c3e3c4d7c891ddff2bb073f7f5d00ffa965d8", func := "contra/contralaw11.MsgShort", spec := "msgShort", unfollowed := true, recurses := true, apart := false }
def MsgShortSaid : Prop := msgShortRow.holds Try.pinned (OpenSpec.ofChange msgShortSpec)

/-- ITS FALSE NEIGHBOUR: 'it returns false'. Refute it at one input. -/
def msgShortWrong : ChangeSpec := { name := "msgShort", fn := fun _ => fun
  | [d1, d2] => { results := [.lit (.bool false)], args := [d1, d2] }
  | _ => none }
def MsgShortWrongFalsely : Prop := msgShortRow.holds Try.pinned (OpenSpec.ofChange msgShortWrong)

/-- 'contralaw11.MsgKinds': WHATEVER THE INPUT: true; the input reads as it did. -/
def msgKindsSpec : ChangeSpec := { name := "msgKinds", fn := fun _ => fun
  | [d1, d2] => { results := [.lit (.bool true)], args := [d1, d2] }
  | _ => none }
def msgKindsRow : OpenClaim := { program := "ytgmfafmefafiiaa", sum := "b8d0a7c211193423effbfd73974c3e3c4d7c891ddff2bb073f7f5d00ffa965d8", func := "contra/contralaw11.MsgKinds", spec := "msgKinds", unfollowed := true, recurses := true, apart := false }
def MsgKindsSaid : Prop := msgKindsRow.holds Try.pinned (OpenSpec.ofChange msgKindsSpec)

/-- ITS FALSE NEIGHBOUR: 'it returns false'. Refute it at one input. -/
def msgKindsWrong : ChangeSpec := { name := "msgKinds", fn := fun _ => fun
  | [d1, d2] => { results := [.lit (.bool false)], args := [d1, d2] }
  | _ => none }
def MsgKindsWrongFalsely : Prop := msgKindsRow.holds Try.pinned (OpenSpec.ofChange msgKindsWrong)

/-- 'contralaw11.MsgItems': WHATEVER THE INPUT: true; the input reads as it did. -/
def msgItemsSpec : ChangeSpec := { name := "msgItems", fn := fun _ => fun
  | [d1, d2, d3] => { results := [.lit (.bool true)], args := [d1, d2, d3] }
  | _ => none }
def msgItemsRow : OpenClaim := { program := "ytgmfafmefafiiaa", sum := "b8d0a7c211193423effbfd73974c3e3c4d7c891ddff2bb073f7f5d00ffa965d8", func := "contra/contralaw11.MsgItems", spec := "msgItems", unfollowed := true, recurses := true, apart := false }
def MsgItemsSaid : Prop := msgItemsRow.holds Try.pinned (OpenSpec.ofChange msgItemsSpec)

/-- ITS FALSE NEIGHBOUR: 'it returns false'. Refute it at one input. -/
def msgItemsWrong : ChangeSpec := { name := "msgItems", fn := fun _ => fun
  | [d1, d2, d3] => { results := [.lit (.bool false)], args := [d1, d2, d3] }
  | _ => none }
def MsgItemsWrongFalsely : Prop := msgItemsRow.holds Try.pinned (OpenSpec.ofChange msgItemsWrong)

/- THE SECOND FORM. 'bulk': how many values and letters a reading holds, each counted each time it is reached (what is shared counts as often as it is met; a slice's spare places count too). A statement '..UptoSaid' is the law's where the arguments, and the package variables that the reading takes, are together of bulk at most 1048576: NARROWER than '..Said'. Prove '..Said' where nothing that the law and all that it calls make is longer than what came in: it says more and counts as full. Else prove '..UptoSaid'. A law counts once. -/
mutual
def uptoBulk {H : Type} : DataW H → Nat
  | .lit (.string bytes) => bytes.length + 1
  | .lit _ => 1
  | .nil => 1
  | .ptr d => uptoBulk d + 1
  | .slice elems spare => uptoBulkAll elems + uptoBulkAll spare + 1
  | .agg parts => uptoBulkAll parts + 1
  | .iface _ d => uptoBulk d + 1
  | .map entries => uptoBulkEntries entries + 1
  | .held _ => 1
def uptoBulkAll {H : Type} : List (DataW H) → Nat
  | [] => 0
  | d :: r => uptoBulk d + uptoBulkAll r
def uptoBulkEntries {H : Type} : List (Lit × DataW H) → Nat
  | [] => 0
  | x :: r => uptoBulkEntry x + uptoBulkEntries r
def uptoBulkEntry {H : Type} : Lit × DataW H → Nat
  | (.string bytes, d) => bytes.length + uptoBulk d + 1
  | (_, d) => uptoBulk d + 1
 end
def uptoSmall : (H : Type) → List (DataW H) → Bool := fun _ ds => decide (uptoBulkAll ds ≤ 1048576)
def OpenSpec.upto (s : _root_.Go.ChangeSpec) : _root_.Go.OpenSpec := { _root_.Go.OpenSpec.ofChange s with cond := some uptoSmall }

/-- 'contralaw11.MsgWrites', WHERE WHAT IT READS IS OF BULK AT MOST 1048576: true; the input reads as it did. -/
def msgWritesUptoRow : OpenClaim := { program := "ytgmfafmefafiiaa", sum := "b8d0a7c211193423effbfd73974c3e3c4d7c891ddff2bb073f7f5d00ffa965d8", func := "contra/contralaw11.MsgWrites", spec := "msgWrites", unfollowed := true, recurses := true, apart := false, narrowed := true }
def MsgWritesUptoSaid : Prop := msgWritesUptoRow.holds Try.pinned (OpenSpec.upto msgWritesSpec)

/-- 'contralaw11.MsgReads', WHERE WHAT IT READS IS OF BULK AT MOST 1048576: true; the input reads as it did. -/
def msgReadsUptoRow : OpenClaim := { program := "ytgmfafmefafiiaa", sum := "b8d0a7c211193423effbfd73974c3e3c4d7c891ddff2bb073f7f5d00ffa965d8", func := "contra/contralaw11.MsgReads", spec := "msgReads", unfollowed := true, recurses := true, apart := false, narrowed := true }
def MsgReadsUptoSaid : Prop := msgReadsUptoRow.holds Try.pinned (OpenSpec.upto msgReadsSpec)

/-- 'contralaw11.MsgRows', WHERE WHAT IT READS IS OF BULK AT MOST 1048576: true; the input reads as it did. -/
def msgRowsUptoRow : OpenClaim := { program := "ytgmfafmefafiiaa", sum := "b8d0a7c211193423effbfd73974c3e3c4d7c891ddff2bb073f7f5d00ffa965d8", func := "contra/contralaw11.MsgRows", spec := "msgRows", unfollowed := true, recurses := true, apart := false, narrowed := true }
def MsgRowsUptoSaid : Prop := msgRowsUptoRow.holds Try.pinned (OpenSpec.upto msgRowsSpec)

/-- 'contralaw11.MsgOwn', WHERE WHAT IT READS IS OF BULK AT MOST 1048576: true; the input reads as it did. -/
def msgOwnUptoRow : OpenClaim := { program := "ytgmfafmefafiiaa", sum := "b8d0a7c211193423effbfd73974c3e3c4d7c891ddff2bb073f7f5d00ffa965d8", func := "contra/contralaw11.MsgOwn", spec := "msgOwn", unfollowed := true, recurses := true, apart := false, narrowed := true }
def MsgOwnUptoSaid : Prop := msgOwnUptoRow.holds Try.pinned (OpenSpec.upto msgOwnSpec)

/-- 'contralaw11.MsgShort', WHERE WHAT IT READS IS OF BULK AT MOST 1048576: true; the input reads as it did. -/
def msgShortUptoRow : OpenClaim := { program := "ytgmfafmefafiiaa", sum := "b8d0a7c211193423effbfd73974c3e3c4d7c891ddff2bb073f7f5d00ffa965d8", func := "contra/contralaw11.MsgShort", spec := "msgShort", unfollowed := true, recurses := true, apart := false, narrowed := true }
def MsgShortUptoSaid : Prop := msgShortUptoRow.holds Try.pinned (OpenSpec.upto msgShortSpec)

/-- 'contralaw11.MsgKinds', WHERE WHAT IT READS IS OF BULK AT MOST 1048576: true; the input reads as it did. -/
def msgKindsUptoRow : OpenClaim := { program := "ytgmfafmefafiiaa", sum := "b8d0a7c211193423effbfd73974c3e3c4d7c891ddff2bb073f7f5d00ffa965d8", func := "contra/contralaw11.MsgKinds", spec := "msgKinds", unfollowed := true, recurses := true, apart := false, narrowed := true }
def MsgKindsUptoSaid : Prop := msgKindsUptoRow.holds Try.pinned (OpenSpec.upto msgKindsSpec)

/-- 'contralaw11.MsgItems', WHERE WHAT IT READS IS OF BULK AT MOST 1048576: true; the input reads as it did. -/
def msgItemsUptoRow : OpenClaim := { program := "ytgmfafmefafiiaa", sum := "b8d0a7c211193423effbfd73974c3e3c4d7c891ddff2bb073f7f5d00ffa965d8", func := "contra/contralaw11.MsgItems", spec := "msgItems", unfollowed := true, recurses := true, apart := false, narrowed := true }
def MsgItemsUptoSaid : Prop := msgItemsUptoRow.holds Try.pinned (OpenSpec.upto msgItemsSpec)

end Rows
end Go.Proofs.Ytgmfafmefafiiaa
