/-
  No cell of these rows narrows 'for every input' (looked for: loops, veiled, ifaces, maps, wideKeys, modest, calm, conditions, laid).
  DERIVED. THE GIVEN ROWS OF THIS SEAT. 5 by the template 'for every input the law returns true; each argument reads behind the call as it read before'; 0 by the template 'total and deterministic' (their statements: YtdodaepdghlolaaTotals.lean).
  GIVEN WITH THE SEED: the statements are not yours to turn. If you find one false, say at which input.
  Laid BY PROGRAM, IN A SANDBOX (cutbox-rows.mjs): the forced cells as the released guide's own fill.sh prints them over the translation 3fa12d643d759243… (all of the seat's roots in one cut). By AI agents, Wed Nov 11 2026. No macro, syntax, notation, axiom, sorry.
-/
import Derived.Test.YtdodaepdghlolaaChecked
import GoSem.Claim
import GoSem.ClaimJoined
import GoSem.ClaimMapViews
import Derived.JoinedTies
import Derived.KernelRfl
namespace Go.Proofs.Ytdodaepdghlolaa
/- THE CELL 'sum', in the pinned program and in every row, IS THE sha256 OF THE DUMP (.gsa) THAT YtdodaepdghlolaaProg.lean LOADS. Nothing in Lean hashes anything: it is a label: what it is worth is what the hold of that sum in a sandbox is worth. -/
noncomputable def Try.pinned : Pinned := { name := "ytdodaepdghlolaa", sum := "3fa12d643d7592433c1d30c20d7ac7c6c1b1cabce4494675636e26c9b50607e3", checked := Try.checked }
namespace Rows
def none {H : Type} : Left H := { results := [], args := [] }

/-- 'contralaw08.ClockOnce': WHATEVER THE INPUT: true; the input reads as it did. -/
def clockOnceSpec : ChangeSpec := { name := "clockOnce", fn := fun _ => fun
  | [d] => { results := [.lit (.bool true)], args := [d] }
  | _ => none }
def clockOnceRow : OpenClaim := { program := "ytdodaepdghlolaa", sum := "3fa12d643d7592433c1d30c20d7ac7c6c1b1cabce4494675636e26c9b50607e3", func := "contra/contralaw08.ClockOnce", spec := "clockOnce", unfollowed := true, recurses := true, apart := false }
def ClockOnceSaid : Prop := clockOnceRow.holds Try.pinned (OpenSpec.ofChange clockOnceSpec)

/-- ITS FALSE NEIGHBOUR: 'it returns false'. Refute it at one input. -/
def clockOnceWrong : ChangeSpec := { name := "clockOnce", fn := fun _ => fun
  | [d] => { results := [.lit (.bool false)], args := [d] }
  | _ => none }
def ClockOnceWrongFalsely : Prop := clockOnceRow.holds Try.pinned (OpenSpec.ofChange clockOnceWrong)

/-- 'contralaw08.ClockFull': WHATEVER THE INPUT: true; the input reads as it did. -/
def clockFullSpec : ChangeSpec := { name := "clockFull", fn := fun _ => fun
  | [d1, d2] => { results := [.lit (.bool true)], args := [d1, d2] }
  | _ => none }
def clockFullRow : OpenClaim := { program := "ytdodaepdghlolaa", sum := "3fa12d643d7592433c1d30c20d7ac7c6c1b1cabce4494675636e26c9b50607e3", func := "contra/contralaw08.ClockFull", spec := "clockFull", unfollowed := true, recurses := true, apart := false }
def ClockFullSaid : Prop := clockFullRow.holds Try.pinned (OpenSpec.ofChange clockFullSpec)

/-- ITS FALSE NEIGHBOUR: 'it returns false'. Refute it at one input. -/
def clockFullWrong : ChangeSpec := { name := "clockFull", fn := fun _ => fun
  | [d1, d2] => { results := [.lit (.bool false)], args := [d1, d2] }
  | _ => none }
def ClockFullWrongFalsely : Prop := clockFullRow.holds Try.pinned (OpenSpec.ofChange clockFullWrong)

/-- 'contralaw08.ClockAgain': WHATEVER THE INPUT: true; the input reads as it did. -/
def clockAgainSpec : ChangeSpec := { name := "clockAgain", fn := fun _ => fun
  | [d1, d2, d3] => { results := [.lit (.bool true)], args := [d1, d2, d3] }
  | _ => none }
def clockAgainRow : OpenClaim := { program := "ytdodaepdghlolaa", sum := "3fa12d643d7592433c1d30c20d7ac7c6c1b1cabce4494675636e26c9b50607e3", func := "contra/contralaw08.ClockAgain", spec := "clockAgain", unfollowed := true, recurses := true, apart := false }
def ClockAgainSaid : Prop := clockAgainRow.holds Try.pinned (OpenSpec.ofChange clockAgainSpec)

/-- ITS FALSE NEIGHBOUR: 'it returns false'. Refute it at one input. -/
def clockAgainWrong : ChangeSpec := { name := "clockAgain", fn := fun _ => fun
  | [d1, d2, d3] => { results := [.lit (.bool false)], args := [d1, d2, d3] }
  | _ => none }
def ClockAgainWrongFalsely : Prop := clockAgainRow.holds Try.pinned (OpenSpec.ofChange clockAgainWrong)

/-- 'contralaw08.ClockPlays': WHATEVER THE INPUT: true; the input reads as it did. -/
def clockPlaysSpec : ChangeSpec := { name := "clockPlays", fn := fun _ => fun
  | [d1, d2] => { results := [.lit (.bool true)], args := [d1, d2] }
  | _ => none }
def clockPlaysRow : OpenClaim := { program := "ytdodaepdghlolaa", sum := "3fa12d643d7592433c1d30c20d7ac7c6c1b1cabce4494675636e26c9b50607e3", func := "contra/contralaw08.ClockPlays", spec := "clockPlays", unfollowed := true, recurses := true, apart := false }
def ClockPlaysSaid : Prop := clockPlaysRow.holds Try.pinned (OpenSpec.ofChange clockPlaysSpec)

/-- ITS FALSE NEIGHBOUR: 'it returns false'. Refute it at one input. -/
def clockPlaysWrong : ChangeSpec := { name := "clockPlays", fn := fun _ => fun
  | [d1, d2] => { results := [.lit (.bool false)], args := [d1, d2] }
  | _ => none }
def ClockPlaysWrongFalsely : Prop := clockPlaysRow.holds Try.pinned (OpenSpec.ofChange clockPlaysWrong)

/-- 'contralaw08.ClockLate': WHATEVER THE INPUT: true; the input reads as it did. -/
def clockLateSpec : ChangeSpec := { name := "clockLate", fn := fun _ => fun
  | [d] => { results := [.lit (.bool true)], args := [d] }
  | _ => none }
def clockLateRow : OpenClaim := { program := "ytdodaepdghlolaa", sum := "3fa12d643d7592433c1d30c20d7ac7c6c1b1cabce4494675636e26c9b50607e3", func := "contra/contralaw08.ClockLate", spec := "clockLate", unfollowed := true, recurses := true, apart := false }
def ClockLateSaid : Prop := clockLateRow.holds Try.pinned (OpenSpec.ofChange clockLateSpec)

/-- ITS FALSE NEIGHBOUR: 'it returns false'. Refute it at one input. -/
def clockLateWrong : ChangeSpec := { name := "clockLate", fn := fun _ => fun
  | [d] => { results := [.lit (.bool false)], args := [d] }
  | _ => none }
def ClockLateWrongFalsely : Prop := clockLateRow.holds Try.pinned (OpenSpec.ofChange clockLateWrong)

/- THE SECOND FORM. 'bulk': how many values and letters a reading holds, each counted each time it is reached (what is shared counts as often as it is met; a slice's spare places count too). A statement '..UptoSaid' is the law's where the arguments, and the package variables that the reading takes, are together of bulk at most 1048576: NARROWER than '..Said'. Prove '..Said' where nothing that the law and all that it calls make is longer than what came in: it says more and counts as full. Else prove '..UptoSaid'. A law counts once. -/
mutual
def uptoBulk {H : Type} : DataW H → Nat
  | .lit (.string bytes) => bytes.length + 1
  | .lit _ => 1
  | .nil => 1
  | .ptr d => uptoBulk d + 1
  | .slice elems spare => uptoBulkAll elems + uptoBulkAll spare + 1
  | .agg parts => uptoBulkAll parts + 1
  | .iface _ d => uptoBulk d + 1
  | .map entries => uptoBulkEntries entries + 1
  | .held _ => 1
def uptoBulkAll {H : Type} : List (DataW H) → Nat
  | [] => 0
  | d :: r => uptoBulk d + uptoBulkAll r
def uptoBulkEntries {H : Type} : List (Lit × DataW H) → Nat
  | [] => 0
  | x :: r => uptoBulkEntry x + uptoBulkEntries r
def uptoBulkEntry {H : Type} : Lit × DataW H → Nat
  | (.string bytes, d) => bytes.length + uptoBulk d + 1
  | (_, d) => uptoBulk d + 1
 end
def uptoSmall : (H : Type) → List (DataW H) → Bool := fun _ ds => decide (uptoBulkAll ds ≤ 1048576)
def OpenSpec.upto (s : _root_.Go.ChangeSpec) : _root_.Go.OpenSpec := { _root_.Go.OpenSpec.ofChange s with cond := some uptoSmall }

/-- 'contralaw08.ClockOnce', WHERE WHAT IT READS IS OF BULK AT MOST 1048576: true; the input reads as it did. -/
def clockOnceUptoRow : OpenClaim := { program := "ytdodaepdghlolaa", sum := "3fa12d643d7592433c1d30c20d7ac7c6c1b1cabce4494675636e26c9b50607e3", func := "contra/contralaw08.ClockOnce", spec := "clockOnce", unfollowed := true, recurses := true, apart := false, narrowed := true }
def ClockOnceUptoSaid : Prop := clockOnceUptoRow.holds Try.pinned (OpenSpec.upto clockOnceSpec)

/-- 'contralaw08.ClockFull', WHERE WHAT IT READS IS OF BULK AT MOST 1048576: true; the input reads as it did. -/
def clockFullUptoRow : OpenClaim := { program := "ytdodaepdghlolaa", sum := "3fa12d643d7592433c1d30c20d7ac7c6c1b1cabce4494675636e26c9b50607e3", func := "contra/contralaw08.ClockFull", spec := "clockFull", unfollowed := true, recurses := true, apart := false, narrowed := true }
def ClockFullUptoSaid : Prop := clockFullUptoRow.holds Try.pinned (OpenSpec.upto clockFullSpec)

/-- 'contralaw08.ClockAgain', WHERE WHAT IT READS IS OF BULK AT MOST 1048576: true; the input reads as it did. -/
def clockAgainUptoRow : OpenClaim := { program := "ytdodaepdghlolaa", sum := "3fa12d643d7592433c1d30c20d7ac7c6c1b1cabce4494675636e26c9b50607e3", func := "contra/contralaw08.ClockAgain", spec := "clockAgain", unfollowed := true, recurses := true, apart := false, narrowed := true }
def ClockAgainUptoSaid : Prop := clockAgainUptoRow.holds Try.pinned (OpenSpec.upto clockAgainSpec)

/-- 'contralaw08.ClockPlays', WHERE WHAT IT READS IS OF BULK AT MOST 1048576: true; the input reads as it did. -/
def clockPlaysUptoRow : OpenClaim := { program := "ytdodaepdghlolaa", sum := "3fa12d643d7592433c1d30c20d7ac7c6c1b1cabce4494675636e26c9b50607e3", func := "contra/contralaw08.ClockPlays", spec := "clockPlays", unfollowed := true, recurses := true, apart := false, narrowed := true }
def ClockPlaysUptoSaid : Prop := clockPlaysUptoRow.holds Try.pinned (OpenSpec.upto clockPlaysSpec)

/-- 'contralaw08.ClockLate', WHERE WHAT IT READS IS OF BULK AT MOST 1048576: true; the input reads as it did. -/
def clockLateUptoRow : OpenClaim := { program := "ytdodaepdghlolaa", sum := "3fa12d643d7592433c1d30c20d7ac7c6c1b1cabce4494675636e26c9b50607e3", func := "contra/contralaw08.ClockLate", spec := "clockLate", unfollowed := true, recurses := true, apart := false, narrowed := true }
def ClockLateUptoSaid : Prop := clockLateUptoRow.holds Try.pinned (OpenSpec.upto clockLateSpec)

end Rows
end Go.Proofs.Ytdodaepdghlolaa
