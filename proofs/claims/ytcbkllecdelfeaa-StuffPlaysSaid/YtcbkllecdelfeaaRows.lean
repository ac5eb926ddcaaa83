/-
  No cell of these rows narrows 'for every input' (looked for: loops, veiled, ifaces, maps, wideKeys, modest, calm, conditions, laid).
  DERIVED. THE GIVEN ROWS OF THIS SEAT. 5 by the template 'for every input the law returns true; each argument reads behind the call as it read before'; 0 by the template 'total and deterministic' (their statements: YtcbkllecdelfeaaTotals.lean).
  GIVEN WITH THE SEED: the statements are not yours to turn. If you find one false, say at which input.
  Laid BY PROGRAM, IN A SANDBOX (cutbox-rows.mjs): the forced cells as the released guide's own fill.sh prints them over the translation f6fa387c2258267a… (all of the seat's roots in one cut). By AI agents, Wed Nov 11 2026. No macro, syntax, notation, axiom, sorry.
-/
import Derived.Test.YtcbkllecdelfeaaChecked
import GoSem.Claim
import GoSem.ClaimJoined
import GoSem.ClaimMapViews
import Derived.JoinedTies
import Derived.KernelRfl
namespace Go.Proofs.Ytcbkllecdelfeaa
/- THE CELL 'sum', in the pinned program and in every row, IS THE sha256 OF THE DUMP (.gsa) THAT YtcbkllecdelfeaaProg.lean LOADS. Nothing in Lean hashes anything: it is a label: what it is worth is what the hold of that sum in a sandbox is worth. -/
noncomputable def Try.pinned : Pinned := { name := "ytcbkllecdelfeaa", sum := "f6fa387c2258267ad8839dc12bcc7ba268044b4de5586812fce2ce6230b6685e", checked := Try.checked }
namespace Rows
def none {H : Type} : Left H := { results := [], args := [] }

/-- 'pillarboxlaw19.StuffTells': WHATEVER THE INPUT: true; the input reads as it did. -/
def stuffTellsSpec : ChangeSpec := { name := "stuffTells", fn := fun _ => fun
  | [d1, d2] => { results := [.lit (.bool true)], args := [d1, d2] }
  | _ => none }
def stuffTellsRow : OpenClaim := { program := "ytcbkllecdelfeaa", sum := "f6fa387c2258267ad8839dc12bcc7ba268044b4de5586812fce2ce6230b6685e", func := "pillarbox/pillarboxlaw19.StuffTells", spec := "stuffTells", unfollowed := true, recurses := true, apart := false }
def StuffTellsSaid : Prop := stuffTellsRow.holds Try.pinned (OpenSpec.ofChange stuffTellsSpec)

/-- ITS FALSE NEIGHBOUR: 'it returns false'. Refute it at one input. -/
def stuffTellsWrong : ChangeSpec := { name := "stuffTells", fn := fun _ => fun
  | [d1, d2] => { results := [.lit (.bool false)], args := [d1, d2] }
  | _ => none }
def StuffTellsWrongFalsely : Prop := stuffTellsRow.holds Try.pinned (OpenSpec.ofChange stuffTellsWrong)

/-- 'pillarboxlaw19.StuffPlays': WHATEVER THE INPUT: true; the input reads as it did. -/
def stuffPlaysSpec : ChangeSpec := { name := "stuffPlays", fn := fun _ => fun
  | [d1, d2, d3] => { results := [.lit (.bool true)], args := [d1, d2, d3] }
  | _ => none }
def stuffPlaysRow : OpenClaim := { program := "ytcbkllecdelfeaa", sum := "f6fa387c2258267ad8839dc12bcc7ba268044b4de5586812fce2ce6230b6685e", func := "pillarbox/pillarboxlaw19.StuffPlays", spec := "stuffPlays", unfollowed := true, recurses := true, apart := false }
def StuffPlaysSaid : Prop := stuffPlaysRow.holds Try.pinned (OpenSpec.ofChange stuffPlaysSpec)

/-- ITS FALSE NEIGHBOUR: 'it returns false'. Refute it at one input. -/
def stuffPlaysWrong : ChangeSpec := { name := "stuffPlays", fn := fun _ => fun
  | [d1, d2, d3] => { results := [.lit (.bool false)], args := [d1, d2, d3] }
  | _ => none }
def StuffPlaysWrongFalsely : Prop := stuffPlaysRow.holds Try.pinned (OpenSpec.ofChange stuffPlaysWrong)

/-- 'pillarboxlaw19.StuffBack': WHATEVER THE INPUT: true; the input reads as it did. -/
def stuffBackSpec : ChangeSpec := { name := "stuffBack", fn := fun _ => fun
  | [d] => { results := [.lit (.bool true)], args := [d] }
  | _ => none }
def stuffBackRow : OpenClaim := { program := "ytcbkllecdelfeaa", sum := "f6fa387c2258267ad8839dc12bcc7ba268044b4de5586812fce2ce6230b6685e", func := "pillarbox/pillarboxlaw19.StuffBack", spec := "stuffBack", unfollowed := true, recurses := true, apart := false }
def StuffBackSaid : Prop := stuffBackRow.holds Try.pinned (OpenSpec.ofChange stuffBackSpec)

/-- ITS FALSE NEIGHBOUR: 'it returns false'. Refute it at one input. -/
def stuffBackWrong : ChangeSpec := { name := "stuffBack", fn := fun _ => fun
  | [d] => { results := [.lit (.bool false)], args := [d] }
  | _ => none }
def StuffBackWrongFalsely : Prop := stuffBackRow.holds Try.pinned (OpenSpec.ofChange stuffBackWrong)

/-- 'pillarboxlaw19.StuffRoom': WHATEVER THE INPUT: true; the input reads as it did. -/
def stuffRoomSpec : ChangeSpec := { name := "stuffRoom", fn := fun _ => fun
  | [d1, d2, d3] => { results := [.lit (.bool true)], args := [d1, d2, d3] }
  | _ => none }
def stuffRoomRow : OpenClaim := { program := "ytcbkllecdelfeaa", sum := "f6fa387c2258267ad8839dc12bcc7ba268044b4de5586812fce2ce6230b6685e", func := "pillarbox/pillarboxlaw19.StuffRoom", spec := "stuffRoom", unfollowed := true, recurses := true, apart := false }
def StuffRoomSaid : Prop := stuffRoomRow.holds Try.pinned (OpenSpec.ofChange stuffRoomSpec)

/-- ITS FALSE NEIGHBOUR: 'it returns false'. Refute it at one input. -/
def stuffRoomWrong : ChangeSpec := { name := "stuffRoom", fn := fun _ => fun
  | [d1, d2, d3] => { results := [.lit (.bool false)], args := [d1, d2, d3] }
  | _ => none }
def StuffRoomWrongFalsely : Prop := stuffRoomRow.holds Try.pinned (OpenSpec.ofChange stuffRoomWrong)

/-- 'pillarboxlaw19.StuffDots': WHATEVER THE INPUT: true; the input reads as it did. -/
def stuffDotsSpec : ChangeSpec := { name := "stuffDots", fn := fun _ => fun
  | [d] => { results := [.lit (.bool true)], args := [d] }
  | _ => none }
def stuffDotsRow : OpenClaim := { program := "ytcbkllecdelfeaa", sum := "f6fa387c2258267ad8839dc12bcc7ba268044b4de5586812fce2ce6230b6685e", func := "pillarbox/pillarboxlaw19.StuffDots", spec := "stuffDots", unfollowed := true, recurses := true, apart := false }
def StuffDotsSaid : Prop := stuffDotsRow.holds Try.pinned (OpenSpec.ofChange stuffDotsSpec)

/-- ITS FALSE NEIGHBOUR: 'it returns false'. Refute it at one input. -/
def stuffDotsWrong : ChangeSpec := { name := "stuffDots", fn := fun _ => fun
  | [d] => { results := [.lit (.bool false)], args := [d] }
  | _ => none }
def StuffDotsWrongFalsely : Prop := stuffDotsRow.holds Try.pinned (OpenSpec.ofChange stuffDotsWrong)

/- THE SECOND FORM. 'bulk': how many values and letters a reading holds, each counted each time it is reached (what is shared counts as often as it is met; a slice's spare places count too). A statement '..UptoSaid' is the law's where the arguments, and the package variables that the reading takes, are together of bulk at most 1048576: NARROWER than '..Said'. Prove '..Said' where nothing that the law and all that it calls make is longer than what came in: it says more and counts as full. Else prove '..UptoSaid'. A law counts once. -/
mutual
def uptoBulk {H : Type} : DataW H → Nat
  | .lit (.string bytes) => bytes.length + 1
  | .lit _ => 1
  | .nil => 1
  | .ptr d => uptoBulk d + 1
  | .slice elems spare => uptoBulkAll elems + uptoBulkAll spare + 1
  | .agg parts => uptoBulkAll parts + 1
  | .iface _ d => uptoBulk d + 1
  | .map entries => uptoBulkEntries entries + 1
  | .held _ => 1
def uptoBulkAll {H : Type} : List (DataW H) → Nat
  | [] => 0
  | d :: r => uptoBulk d + uptoBulkAll r
def uptoBulkEntries {H : Type} : List (Lit × DataW H) → Nat
  | [] => 0
  | x :: r => uptoBulkEntry x + uptoBulkEntries r
def uptoBulkEntry {H : Type} : Lit × DataW H → Nat
  | (.string bytes, d) => bytes.length + uptoBulk d + 1
  | (_, d) => uptoBulk d + 1
 end
def uptoSmall : (H : Type) → List (DataW H) → Bool := fun _ ds => decide (uptoBulkAll ds ≤ 1048576)
def OpenSpec.upto (s : _root_.Go.ChangeSpec) : _root_.Go.OpenSpec := { _root_.Go.OpenSpec.ofChange s with cond := some uptoSmall }

/-- 'pillarboxlaw19.StuffTells', WHERE WHAT IT READS IS OF BULK AT MOST 1048576: true; the input reads as it did. -/
def stuffTellsUptoRow : OpenClaim := { program := "ytcbkllecdelfeaa", sum := "f6fa387c2258267ad8839dc12bcc7ba268044b4de5586812fce2ce6230b6685e", func := "pillarbox/pillarboxlaw19.StuffTells", spec := "stuffTells", unfollowed := true, recurses := true, apart := false, narrowed := true }
def StuffTellsUptoSaid : Prop := stuffTellsUptoRow.holds Try.pinned (OpenSpec.upto stuffTellsSpec)

/-- 'pillarboxlaw19.StuffPlays', WHERE WHAT IT READS IS OF BULK AT MOST 1048576: true; the input reads as it did. -/
def stuffPlaysUptoRow : OpenClaim := { program := "ytcbkllecdelfeaa", sum := "f6fa387c2258267ad8839dc12bcc7ba268044b4de5586812fce2ce6230b6685e", func := "pillarbox/pillarboxlaw19.StuffPlays", spec := "stuffPlays", unfollowed := true, recurses := true, apart := false, narrowed := true }
def StuffPlaysUptoSaid : Prop := stuffPlaysUptoRow.holds Try.pinned (OpenSpec.upto stuffPlaysSpec)

/-- 'pillarboxlaw19.StuffBack', WHERE WHAT IT READS IS OF BULK AT MOST 1048576: true; the input reads as it did. -/
def stuffBackUptoRow : OpenClaim := { program := "ytcbkllecdelfeaa", sum := "f6fa387c2258267ad8839dc12bcc7ba268044b4de5586812fce2ce6230b6685e", func := "pillarbox/pillarboxlaw19.StuffBack", spec := "stuffBack", unfollowed := true, recurses := true, apart := false, narrowed := true }
def StuffBackUptoSaid : Prop := stuffBackUptoRow.holds Try.pinned (OpenSpec.upto stuffBackSpec)

/-- 'pillarboxlaw19.StuffRoom', WHERE WHAT IT READS IS OF BULK AT MOST 1048576: true; the input reads as it did. -/
def stuffRoomUptoRow : OpenClaim := { program := "ytcbkllecdelfeaa", sum := "f6fa387c2258267ad8839dc12bcc7ba268044b4de5586812fce2ce6230b6685e", func := "pillarbox/pillarboxlaw19.StuffRoom", spec := "stuffRoom", unfollowed := true, recurses := true, apart := false, narrowed := true }
def StuffRoomUptoSaid : Prop := stuffRoomUptoRow.holds Try.pinned (OpenSpec.upto stuffRoomSpec)

/-- 'pillarboxlaw19.StuffDots', WHERE WHAT IT READS IS OF BULK AT MOST 1048576: true; the input reads as it did. -/
def stuffDotsUptoRow : OpenClaim := { program := "ytcbkllecdelfeaa", sum := "f6fa387c2258267ad8839dc12bcc7ba268044b4de5586812fce2ce6230b6685e", func := "pillarbox/pillarboxlaw19.StuffDots", spec := "stuffDots", unfollowed := true, recurses := true, apart := false, narrowed := true }
def StuffDotsUptoSaid : Prop := stuffDotsUptoRow.holds Try.pinned (OpenSpec.upto stuffDotsSpec)

end Rows
end Go.Proofs.Ytcbkllecdelfeaa
