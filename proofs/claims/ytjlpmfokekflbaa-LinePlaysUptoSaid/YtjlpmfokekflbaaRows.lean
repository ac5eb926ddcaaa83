/-
  No cell of these rows narrows 'for every input' (looked for: loops, veiled, ifaces, maps, wideKeys, modest, calm, conditions, laid).
  DERIVED. THE GIVEN ROWS OF THIS SEAT. 5 by the template 'for every input the law returns true; each argument reads behind the call as it read before'; 0 by the template 'total and deterministic' (their statements: YtjlpmfokekflbaaTotals.lean).
  GIVEN WITH THE SEED: the statements are not yours to turn. If you find one false, say at which input.
  Laid BY PROGRAM, IN A SANDBOX (cutbox-rows.mjs): the forced cells as the released guide's own fill.sh prints them over the translation 2a8c3000002c39fe… (all of the seat's roots in one cut). By AI agents, Wed Nov 11 2026. No macro, syntax, notation, axiom, sorry.
-/
import Derived.Test.YtjlpmfokekflbaaChecked
import GoSem.Claim
import GoSem.ClaimJoined
import GoSem.ClaimMapViews
import Derived.JoinedTies
import Derived.KernelRfl
namespace Go.Proofs.Ytjlpmfokekflbaa
/- THE CELL 'sum', in the pinned program and in every row, IS THE sha256 OF THE DUMP (.gsa) THAT YtjlpmfokekflbaaProg.lean LOADS. Nothing in Lean hashes anything: it is a label: what it is worth is what the hold of that sum in a sandbox is worth. -/
noncomputable def Try.pinned : Pinned := { name := "ytjlpmfokekflbaa", sum := "2a8c3000002c39fe0f2898cfdbc1b051e5bab27a98cd65da1f815b1db8ffc390", checked := Try.checked }
namespace Rows
def none {H : Type} : Left H := { results := [], args := [] }

/-- 'pillarboxlaw16.LinePlays': WHATEVER THE INPUT: true; the input reads as it did. -/
def linePlaysSpec : ChangeSpec := { name := "linePlays", fn := fun _ => fun
  | [d1, d2, d3] => { results := [.lit (.bool true)], args := [d1, d2, d3] }
  | _ => none }
def linePlaysRow : OpenClaim := { program := "ytjlpmfokekflbaa", sum := "2a8c3000002c39fe0f2898cfdbc1b051e5bab27a98cd65da1f815b1db8ffc390", func := "pillarbox/pillarboxlaw16.LinePlays", spec := "linePlays", inPlace := ["internal/bytealg.IndexByteString", "internal/bytealg.IndexString", "internal/abi.NoEscape"], named := ["internal/bytealg.MaxLen"], apart := false }
def LinePlaysSaid : Prop := linePlaysRow.holds Try.pinned (OpenSpec.ofChange linePlaysSpec)

/-- ITS FALSE NEIGHBOUR: 'it returns false'. Refute it at one input. -/
def linePlaysWrong : ChangeSpec := { name := "linePlays", fn := fun _ => fun
  | [d1, d2, d3] => { results := [.lit (.bool false)], args := [d1, d2, d3] }
  | _ => none }
def LinePlaysWrongFalsely : Prop := linePlaysRow.holds Try.pinned (OpenSpec.ofChange linePlaysWrong)

/-- 'pillarboxlaw16.LinePrints': WHATEVER THE INPUT: true; the input reads as it did. -/
def linePrintsSpec : ChangeSpec := { name := "linePrints", fn := fun _ => fun
  | [d] => { results := [.lit (.bool true)], args := [d] }
  | _ => none }
def linePrintsRow : OpenClaim := { program := "ytjlpmfokekflbaa", sum := "2a8c3000002c39fe0f2898cfdbc1b051e5bab27a98cd65da1f815b1db8ffc390", func := "pillarbox/pillarboxlaw16.LinePrints", spec := "linePrints", inPlace := ["internal/bytealg.IndexByteString", "internal/bytealg.IndexString", "internal/abi.NoEscape"], named := ["internal/bytealg.MaxLen"], apart := false }
def LinePrintsSaid : Prop := linePrintsRow.holds Try.pinned (OpenSpec.ofChange linePrintsSpec)

/-- ITS FALSE NEIGHBOUR: 'it returns false'. Refute it at one input. -/
def linePrintsWrong : ChangeSpec := { name := "linePrints", fn := fun _ => fun
  | [d] => { results := [.lit (.bool false)], args := [d] }
  | _ => none }
def LinePrintsWrongFalsely : Prop := linePrintsRow.holds Try.pinned (OpenSpec.ofChange linePrintsWrong)

/-- 'pillarboxlaw16.LinePieces': WHATEVER THE INPUT: true; the input reads as it did. -/
def linePiecesSpec : ChangeSpec := { name := "linePieces", fn := fun _ => fun
  | [d1, d2, d3] => { results := [.lit (.bool true)], args := [d1, d2, d3] }
  | _ => none }
def linePiecesRow : OpenClaim := { program := "ytjlpmfokekflbaa", sum := "2a8c3000002c39fe0f2898cfdbc1b051e5bab27a98cd65da1f815b1db8ffc390", func := "pillarbox/pillarboxlaw16.LinePieces", spec := "linePieces", inPlace := ["internal/bytealg.IndexByteString", "internal/bytealg.IndexString", "internal/abi.NoEscape"], named := ["internal/bytealg.MaxLen"], apart := false }
def LinePiecesSaid : Prop := linePiecesRow.holds Try.pinned (OpenSpec.ofChange linePiecesSpec)

/-- ITS FALSE NEIGHBOUR: 'it returns false'. Refute it at one input. -/
def linePiecesWrong : ChangeSpec := { name := "linePieces", fn := fun _ => fun
  | [d1, d2, d3] => { results := [.lit (.bool false)], args := [d1, d2, d3] }
  | _ => none }
def LinePiecesWrongFalsely : Prop := linePiecesRow.holds Try.pinned (OpenSpec.ofChange linePiecesWrong)

/-- 'pillarboxlaw16.LineBack': WHATEVER THE INPUT: true; the input reads as it did. -/
def lineBackSpec : ChangeSpec := { name := "lineBack", fn := fun _ => fun
  | [d] => { results := [.lit (.bool true)], args := [d] }
  | _ => none }
def lineBackRow : OpenClaim := { program := "ytjlpmfokekflbaa", sum := "2a8c3000002c39fe0f2898cfdbc1b051e5bab27a98cd65da1f815b1db8ffc390", func := "pillarbox/pillarboxlaw16.LineBack", spec := "lineBack", inPlace := ["internal/bytealg.IndexByteString", "internal/bytealg.IndexString", "internal/abi.NoEscape"], named := ["internal/bytealg.MaxLen"], apart := false }
def LineBackSaid : Prop := lineBackRow.holds Try.pinned (OpenSpec.ofChange lineBackSpec)

/-- ITS FALSE NEIGHBOUR: 'it returns false'. Refute it at one input. -/
def lineBackWrong : ChangeSpec := { name := "lineBack", fn := fun _ => fun
  | [d] => { results := [.lit (.bool false)], args := [d] }
  | _ => none }
def LineBackWrongFalsely : Prop := lineBackRow.holds Try.pinned (OpenSpec.ofChange lineBackWrong)

/-- 'pillarboxlaw16.LineLong': WHATEVER THE INPUT: true; the input reads as it did. -/
def lineLongSpec : ChangeSpec := { name := "lineLong", fn := fun _ => fun
  | [d1, d2, d3] => { results := [.lit (.bool true)], args := [d1, d2, d3] }
  | _ => none }
def lineLongRow : OpenClaim := { program := "ytjlpmfokekflbaa", sum := "2a8c3000002c39fe0f2898cfdbc1b051e5bab27a98cd65da1f815b1db8ffc390", func := "pillarbox/pillarboxlaw16.LineLong", spec := "lineLong", inPlace := ["internal/bytealg.IndexByteString", "internal/bytealg.IndexString", "internal/abi.NoEscape"], named := ["internal/bytealg.MaxLen"], apart := false }
def LineLongSaid : Prop := lineLongRow.holds Try.pinned (OpenSpec.ofChange lineLongSpec)

/-- ITS FALSE NEIGHBOUR: 'it returns false'. Refute it at one input. -/
def lineLongWrong : ChangeSpec := { name := "lineLong", fn := fun _ => fun
  | [d1, d2, d3] => { results := [.lit (.bool false)], args := [d1, d2, d3] }
  | _ => none }
def LineLongWrongFalsely : Prop := lineLongRow.holds Try.pinned (OpenSpec.ofChange lineLongWrong)

/- THE SECOND FORM. 'bulk': how many values and letters a reading holds, each counted each time it is reached (what is shared counts as often as it is met; a slice's spare places count too). A statement '..UptoSaid' is the law's where the arguments, and the package variables that the reading takes, are together of bulk at most 1048576: NARROWER than '..Said'. Prove '..Said' where nothing that the law and all that it calls make is longer than what came in: it says more and counts as full. Else prove '..UptoSaid'. A law counts once. -/
mutual
def uptoBulk {H : Type} : DataW H → Nat
  | .lit (.string bytes) => bytes.length + 1
  | .lit _ => 1
  | .nil => 1
  | .ptr d => uptoBulk d + 1
  | .slice elems spare => uptoBulkAll elems + uptoBulkAll spare + 1
  | .agg parts => uptoBulkAll parts + 1
  | .iface _ d => uptoBulk d + 1
  | .map entries => uptoBulkEntries entries + 1
  | .held _ => 1
def uptoBulkAll {H : Type} : List (DataW H) → Nat
  | [] => 0
  | d :: r => uptoBulk d + uptoBulkAll r
def uptoBulkEntries {H : Type} : List (Lit × DataW H) → Nat
  | [] => 0
  | x :: r => uptoBulkEntry x + uptoBulkEntries r
def uptoBulkEntry {H : Type} : Lit × DataW H → Nat
  | (.string bytes, d) => bytes.length + uptoBulk d + 1
  | (_, d) => uptoBulk d + 1
 end
def uptoSmall : (H : Type) → List (DataW H) → Bool := fun _ ds => decide (uptoBulkAll ds ≤ 1048576)
def OpenSpec.upto (s : _root_.Go.ChangeSpec) : _root_.Go.OpenSpec := { _root_.Go.OpenSpec.ofChange s with cond := some uptoSmall }

/-- 'pillarboxlaw16.LinePlays', WHERE WHAT IT READS IS OF BULK AT MOST 1048576: true; the input reads as it did. -/
def linePlaysUptoRow : OpenClaim := { program := "ytjlpmfokekflbaa", sum := "2a8c3000002c39fe0f2898cfdbc1b051e5bab27a98cd65da1f815b1db8ffc390", func := "pillarbox/pillarboxlaw16.LinePlays", spec := "linePlays", inPlace := ["internal/bytealg.IndexByteString", "internal/bytealg.IndexString", "internal/abi.NoEscape"], named := ["internal/bytealg.MaxLen"], apart := false, narrowed := true }
def LinePlaysUptoSaid : Prop := linePlaysUptoRow.holds Try.pinned (OpenSpec.upto linePlaysSpec)

/-- 'pillarboxlaw16.LinePrints', WHERE WHAT IT READS IS OF BULK AT MOST 1048576: true; the input reads as it did. -/
def linePrintsUptoRow : OpenClaim := { program := "ytjlpmfokekflbaa", sum := "2a8c3000002c39fe0f2898cfdbc1b051e5bab27a98cd65da1f815b1db8ffc390", func := "pillarbox/pillarboxlaw16.LinePrints", spec := "linePrints", inPlace := ["internal/bytealg.IndexByteString", "internal/bytealg.IndexString", "internal/abi.NoEscape"], named := ["internal/bytealg.MaxLen"], apart := false, narrowed := true }
def LinePrintsUptoSaid : Prop := linePrintsUptoRow.holds Try.pinned (OpenSpec.upto linePrintsSpec)

/-- 'pillarboxlaw16.LinePieces', WHERE WHAT IT READS IS OF BULK AT MOST 1048576: true; the input reads as it did. -/
def linePiecesUptoRow : OpenClaim := { program := "ytjlpmfokekflbaa", sum := "2a8c3000002c39fe0f2898cfdbc1b051e5bab27a98cd65da1f815b1db8ffc390", func := "pillarbox/pillarboxlaw16.LinePieces", spec := "linePieces", inPlace := ["internal/bytealg.IndexByteString", "internal/bytealg.IndexString", "internal/abi.NoEscape"], named := ["internal/bytealg.MaxLen"], apart := false, narrowed := true }
def LinePiecesUptoSaid : Prop := linePiecesUptoRow.holds Try.pinned (OpenSpec.upto linePiecesSpec)

/-- 'pillarboxlaw16.LineBack', WHERE WHAT IT READS IS OF BULK AT MOST 1048576: true; the input reads as it did. -/
def lineBackUptoRow : OpenClaim := { program := "ytjlpmfokekflbaa", sum := "2a8c3000002c39fe0f2898cfdbc1b051e5bab27a98cd65da1f815b1db8ffc390", func := "pillarbox/pillarboxlaw16.LineBack", spec := "lineBack", inPlace := ["internal/bytealg.IndexByteString", "internal/bytealg.IndexString", "internal/abi.NoEscape"], named := ["internal/bytealg.MaxLen"], apart := false, narrowed := true }
def LineBackUptoSaid : Prop := lineBackUptoRow.holds Try.pinned (OpenSpec.upto lineBackSpec)

/-- 'pillarboxlaw16.LineLong', WHERE WHAT IT READS IS OF BULK AT MOST 1048576: true; the input reads as it did. -/
def lineLongUptoRow : OpenClaim := { program := "ytjlpmfokekflbaa", sum := "2a8c3000002c39fe0f2898cfdbc1b051e5bab27a98cd65da1f815b1db8ffc390", func := "pillarbox/pillarboxlaw16.LineLong", spec := "lineLong", inPlace := ["internal/bytealg.IndexByteString", "internal/bytealg.IndexString", "internal/abi.NoEscape"], named := ["internal/bytealg.MaxLen"], apart := false, narrowed := true }
def LineLongUptoSaid : Prop := lineLongUptoRow.holds Try.pinned (OpenSpec.upto lineLongSpec)

end Rows
end Go.Proofs.Ytjlpmfokekflbaa
