/-
  No cell of these rows narrows 'for every input' (looked for: loops, veiled, ifaces, maps, wideKeys, modest, calm, conditions, laid).
  DERIVED. THE GIVEN ROWS OF THIS SEAT. 5 by the template 'for every input the law returns true; each argument reads behind the call as it read before'; 0 by the template 'total and deterministic' (their statements: YtlbghgmeiajioaaTotals.lean).
  GIVEN WITH THE SEED: the statements are not yours to turn. If you find one false, say at which input.
  Laid BY PROGRAM, IN A SANDBOX (cutbox-rows.mjs): the forced cells as the released guide's own fill.sh prints them over the translation 9820eec296a3ff3b… (all of the seat's roots in one cut). By AI agents, Wed Nov 11 2026. No macro, syntax, notation, axiom, sorry.
-/
import Derived.Test.YtlbghgmeiajioaaChecked
import GoSem.Claim
import GoSem.ClaimJoined
import GoSem.ClaimMapViews
import Derived.JoinedTies
import Derived.KernelRfl
namespace Go.Proofs.Ytlbghgmeiajioaa
/- THE CELL 'sum', in the pinned program and in every row, IS THE sha256 OF THE DUMP (.gsa) THAT YtlbghgmeiajioaaProg.lean LOADS. Nothing in Lean hashes anything: it is a label: what it is worth is what the hold of that sum in a sandbox is worth. -/
noncomputable def Try.pinned : Pinned := { name := "ytlbghgmeiajioaa", sum := "9820eec296a3ff3b7944b1cd26b932467319c0fe5eee1f24fd5edcec6d44407d", checked := Try.checked }
namespace Rows
def none {H : Type} : Left H := { results := [], args := [] }

/-- 'pillarboxlaw22.QueuePlays': WHATEVER THE INPUT: true; the input reads as it did. -/
def queuePlaysSpec : ChangeSpec := { name := "queuePlays", fn := fun _ => fun
  | [d1, d2, d3, d4] => { results := [.lit (.bool true)], args := [d1, d2, d3, d4] }
  | _ => none }
def queuePlaysRow : OpenClaim := { program := "ytlbghgmeiajioaa", sum := "9820eec296a3ff3b7944b1cd26b932467319c0fe5eee1f24fd5edcec6d44407d", func := "pillarbox/pillarboxlaw22.QueuePlays", spec := "queuePlays", unfollowed := true, recurses := true, apart := false }
def QueuePlaysSaid : Prop := queuePlaysRow.holds Try.pinned (OpenSpec.ofChange queuePlaysSpec)

/-- ITS FALSE NEIGHBOUR: 'it returns false'. Refute it at one input. -/
def queuePlaysWrong : ChangeSpec := { name := "queuePlays", fn := fun _ => fun
  | [d1, d2, d3, d4] => { results := [.lit (.bool false)], args := [d1, d2, d3, d4] }
  | _ => none }
def QueuePlaysWrongFalsely : Prop := queuePlaysRow.holds Try.pinned (OpenSpec.ofChange queuePlaysWrong)

/-- 'pillarboxlaw22.QueueStates': WHATEVER THE INPUT: true; the input reads as it did. -/
def queueStatesSpec : ChangeSpec := { name := "queueStates", fn := fun _ => fun
  | [d1, d2, d3, d4] => { results := [.lit (.bool true)], args := [d1, d2, d3, d4] }
  | _ => none }
def queueStatesRow : OpenClaim := { program := "ytlbghgmeiajioaa", sum := "9820eec296a3ff3b7944b1cd26b932467319c0fe5eee1f24fd5edcec6d44407d", func := "pillarbox/pillarboxlaw22.QueueStates", spec := "queueStates", unfollowed := true, recurses := true, apart := false }
def QueueStatesSaid : Prop := queueStatesRow.holds Try.pinned (OpenSpec.ofChange queueStatesSpec)

/-- ITS FALSE NEIGHBOUR: 'it returns false'. Refute it at one input. -/
def queueStatesWrong : ChangeSpec := { name := "queueStates", fn := fun _ => fun
  | [d1, d2, d3, d4] => { results := [.lit (.bool false)], args := [d1, d2, d3, d4] }
  | _ => none }
def QueueStatesWrongFalsely : Prop := queueStatesRow.holds Try.pinned (OpenSpec.ofChange queueStatesWrong)

/-- 'pillarboxlaw22.QueueRoom': WHATEVER THE INPUT: true; the input reads as it did. -/
def queueRoomSpec : ChangeSpec := { name := "queueRoom", fn := fun _ => fun
  | [d1, d2, d3] => { results := [.lit (.bool true)], args := [d1, d2, d3] }
  | _ => none }
def queueRoomRow : OpenClaim := { program := "ytlbghgmeiajioaa", sum := "9820eec296a3ff3b7944b1cd26b932467319c0fe5eee1f24fd5edcec6d44407d", func := "pillarbox/pillarboxlaw22.QueueRoom", spec := "queueRoom", unfollowed := true, recurses := true, apart := false }
def QueueRoomSaid : Prop := queueRoomRow.holds Try.pinned (OpenSpec.ofChange queueRoomSpec)

/-- ITS FALSE NEIGHBOUR: 'it returns false'. Refute it at one input. -/
def queueRoomWrong : ChangeSpec := { name := "queueRoom", fn := fun _ => fun
  | [d1, d2, d3] => { results := [.lit (.bool false)], args := [d1, d2, d3] }
  | _ => none }
def QueueRoomWrongFalsely : Prop := queueRoomRow.holds Try.pinned (OpenSpec.ofChange queueRoomWrong)

/-- 'pillarboxlaw22.QueueTries': WHATEVER THE INPUT: true; the input reads as it did. -/
def queueTriesSpec : ChangeSpec := { name := "queueTries", fn := fun _ => fun
  | [d1, d2, d3] => { results := [.lit (.bool true)], args := [d1, d2, d3] }
  | _ => none }
def queueTriesRow : OpenClaim := { program := "ytlbghgmeiajioaa", sum := "9820eec296a3ff3b7944b1cd26b932467319c0fe5eee1f24fd5edcec6d44407d", func := "pillarbox/pillarboxlaw22.QueueTries", spec := "queueTries", unfollowed := true, recurses := true, apart := false }
def QueueTriesSaid : Prop := queueTriesRow.holds Try.pinned (OpenSpec.ofChange queueTriesSpec)

/-- ITS FALSE NEIGHBOUR: 'it returns false'. Refute it at one input. -/
def queueTriesWrong : ChangeSpec := { name := "queueTries", fn := fun _ => fun
  | [d1, d2, d3] => { results := [.lit (.bool false)], args := [d1, d2, d3] }
  | _ => none }
def QueueTriesWrongFalsely : Prop := queueTriesRow.holds Try.pinned (OpenSpec.ofChange queueTriesWrong)

/-- 'pillarboxlaw22.QueueDue': WHATEVER THE INPUT: true; the input reads as it did. -/
def queueDueSpec : ChangeSpec := { name := "queueDue", fn := fun _ => fun
  | [d1, d2, d3] => { results := [.lit (.bool true)], args := [d1, d2, d3] }
  | _ => none }
def queueDueRow : OpenClaim := { program := "ytlbghgmeiajioaa", sum := "9820eec296a3ff3b7944b1cd26b932467319c0fe5eee1f24fd5edcec6d44407d", func := "pillarbox/pillarboxlaw22.QueueDue", spec := "queueDue", unfollowed := true, recurses := true, apart := false }
def QueueDueSaid : Prop := queueDueRow.holds Try.pinned (OpenSpec.ofChange queueDueSpec)

/-- ITS FALSE NEIGHBOUR: 'it returns false'. Refute it at one input. -/
def queueDueWrong : ChangeSpec := { name := "queueDue", fn := fun _ => fun
  | [d1, d2, d3] => { results := [.lit (.bool false)], args := [d1, d2, d3] }
  | _ => none }
def QueueDueWrongFalsely : Prop := queueDueRow.holds Try.pinned (OpenSpec.ofChange queueDueWrong)

/- THE SECOND FORM. 'bulk': how many values and letters a reading holds, each counted each time it is reached (what is shared counts as often as it is met; a slice's spare places count too). A statement '..UptoSaid' is the law's where the arguments, and the package variables that the reading takes, are together of bulk at most 1048576: NARROWER than '..Said'. Prove '..Said' where nothing that the law and all that it calls make is longer than what came in: it says more and counts as full. Else prove '..UptoSaid'. A law counts once. -/
mutual
def uptoBulk {H : Type} : DataW H → Nat
  | .lit (.string bytes) => bytes.length + 1
  | .lit _ => 1
  | .nil => 1
  | .ptr d => uptoBulk d + 1
  | .slice elems spare => uptoBulkAll elems + uptoBulkAll spare + 1
  | .agg parts => uptoBulkAll parts + 1
  | .iface _ d => uptoBulk d + 1
  | .map entries => uptoBulkEntries entries + 1
  | .held _ => 1
def uptoBulkAll {H : Type} : List (DataW H) → Nat
  | [] => 0
  | d :: r => uptoBulk d + uptoBulkAll r
def uptoBulkEntries {H : Type} : List (Lit × DataW H) → Nat
  | [] => 0
  | x :: r => uptoBulkEntry x + uptoBulkEntries r
def uptoBulkEntry {H : Type} : Lit × DataW H → Nat
  | (.string bytes, d) => bytes.length + uptoBulk d + 1
  | (_, d) => uptoBulk d + 1
 end
def uptoSmall : (H : Type) → List (DataW H) → Bool := fun _ ds => decide (uptoBulkAll ds ≤ 1048576)
def OpenSpec.upto (s : _root_.Go.ChangeSpec) : _root_.Go.OpenSpec := { _root_.Go.OpenSpec.ofChange s with cond := some uptoSmall }

/-- 'pillarboxlaw22.QueuePlays', WHERE WHAT IT READS IS OF BULK AT MOST 1048576: true; the input reads as it did. -/
def queuePlaysUptoRow : OpenClaim := { program := "ytlbghgmeiajioaa", sum := "9820eec296a3ff3b7944b1cd26b932467319c0fe5eee1f24fd5edcec6d44407d", func := "pillarbox/pillarboxlaw22.QueuePlays", spec := "queuePlays", unfollowed := true, recurses := true, apart := false, narrowed := true }
def QueuePlaysUptoSaid : Prop := queuePlaysUptoRow.holds Try.pinned (OpenSpec.upto queuePlaysSpec)

/-- 'pillarboxlaw22.QueueStates', WHERE WHAT IT READS IS OF BULK AT MOST 1048576: true; the input reads as it did. -/
def queueStatesUptoRow : OpenClaim := { program := "ytlbghgmeiajioaa", sum := "9820eec296a3ff3b7944b1cd26b932467319c0fe5eee1f24fd5edcec6d44407d", func := "pillarbox/pillarboxlaw22.QueueStates", spec := "queueStates", unfollowed := true, recurses := true, apart := false, narrowed := true }
def QueueStatesUptoSaid : Prop := queueStatesUptoRow.holds Try.pinned (OpenSpec.upto queueStatesSpec)

/-- 'pillarboxlaw22.QueueRoom', WHERE WHAT IT READS IS OF BULK AT MOST 1048576: true; the input reads as it did. -/
def queueRoomUptoRow : OpenClaim := { program := "ytlbghgmeiajioaa", sum := "9820eec296a3ff3b7944b1cd26b932467319c0fe5eee1f24fd5edcec6d44407d", func := "pillarbox/pillarboxlaw22.QueueRoom", spec := "queueRoom", unfollowed := true, recurses := true, apart := false, narrowed := true }
def QueueRoomUptoSaid : Prop := queueRoomUptoRow.holds Try.pinned (OpenSpec.upto queueRoomSpec)

/-- 'pillarboxlaw22.QueueTries', WHERE WHAT IT READS IS OF BULK AT MOST 1048576: true; the input reads as it did. -/
def queueTriesUptoRow : OpenClaim := { program := "ytlbghgmeiajioaa", sum := "9820eec296a3ff3b7944b1cd26b932467319c0fe5eee1f24fd5edcec6d44407d", func := "pillarbox/pillarboxlaw22.QueueTries", spec := "queueTries", unfollowed := true, recurses := true, apart := false, narrowed := true }
def QueueTriesUptoSaid : Prop := queueTriesUptoRow.holds Try.pinned (OpenSpec.upto queueTriesSpec)

/-- 'pillarboxlaw22.QueueDue', WHERE WHAT IT READS IS OF BULK AT MOST 1048576: true; the input reads as it did. -/
def queueDueUptoRow : OpenClaim := { program := "ytlbghgmeiajioaa", sum := "9820eec296a3ff3b7944b1cd26b932467319c0fe5eee1f24fd5edcec6d44407d", func := "pillarbox/pillarboxlaw22.QueueDue", spec := "queueDue", unfollowed := true, recurses := true, apart := false, narrowed := true }
def QueueDueUptoSaid : Prop := queueDueUptoRow.holds Try.pinned (OpenSpec.upto queueDueSpec)

end Rows
end Go.Proofs.Ytlbghgmeiajioaa
