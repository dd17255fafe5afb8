/-
  No cell of these rows narrows 'for every input' (looked for: loops, veiled, ifaces, maps, wideKeys, modest, calm, conditions, laid).
  DERIVED. THE GIVEN ROWS OF THIS SEAT. 10 by the template 'for every input the law returns true; each argument reads behind the call as it read before'; 0 by the template 'total and deterministic' (their statements: YthjeginhoddmiaaTotals.lean).
  GIVEN WITH THE SEED: the statements are not yours to turn. If you find one false, say at which input.
  Laid BY PROGRAM, IN A SANDBOX (cutbox-rows.mjs): the forced cells as the released guide's own fill.sh prints them over the translation 677a69a25f3bf738… (all of the seat's roots in one cut). By AI agents, Wed Nov 11 2026. No macro, syntax, notation, axiom, sorry.
-/
import Derived.Test.YthjeginhoddmiaaChecked
import GoSem.Claim
import GoSem.ClaimJoined
import GoSem.ClaimMapViews
import Derived.JoinedTies
import Derived.KernelRfl
namespace Go.Proofs.Ythjeginhoddmiaa
/- THE CELL 'sum', in the pinned program and in every row, IS THE sha256 OF THE DUMP (.gsa) THAT YthjeginhoddmiaaProg.lean LOADS. Nothing in Lean hashes anything: it is a label: what it is worth is what the hold of that sum in a sandbox is worth. -/
noncomputable def Try.pinned : Pinned := { name := "ythjeginhoddmiaa", sum := "677a69a25f3bf738d0e2e765af8fac1f9ae2ea6564199df789761480749c3a6f", checked := Try.checked }
namespace Rows
def none {H : Type} : Left H := { results := [], args := [] }

/-- 'polyphonylaw03.VecLattice': WHATEVER THE INPUT: true; the input reads as it did. -/
def vecLatticeSpec : ChangeSpec := { name := "vecLattice", fn := fun _ => fun
  | [d1, d2, d3] => { results := [.lit (.bool true)], args := [d1, d2, d3] }
  | _ => none }
def vecLatticeRow : OpenClaim := { program := "ythjeginhoddmiaa", sum := "677a69a25f3bf738d0e2e765af8fac1f9ae2ea6564199df789761480749c3a6f", func := "polyphony/polyphonylaw03.VecLattice", spec := "vecLattice", apart := false }
def VecLatticeSaid : Prop := vecLatticeRow.holds Try.pinned (OpenSpec.ofChange vecLatticeSpec)

/-- ITS FALSE NEIGHBOUR: 'it returns false'. Refute it at one input. -/
def vecLatticeWrong : ChangeSpec := { name := "vecLattice", fn := fun _ => fun
  | [d1, d2, d3] => { results := [.lit (.bool false)], args := [d1, d2, d3] }
  | _ => none }
def VecLatticeWrongFalsely : Prop := vecLatticeRow.holds Try.pinned (OpenSpec.ofChange vecLatticeWrong)

/-- 'polyphonylaw03.VecCovers': WHATEVER THE INPUT: true; the input reads as it did. -/
def vecCoversSpec : ChangeSpec := { name := "vecCovers", fn := fun _ => fun
  | [d1, d2, d3] => { results := [.lit (.bool true)], args := [d1, d2, d3] }
  | _ => none }
def vecCoversRow : OpenClaim := { program := "ythjeginhoddmiaa", sum := "677a69a25f3bf738d0e2e765af8fac1f9ae2ea6564199df789761480749c3a6f", func := "polyphony/polyphonylaw03.VecCovers", spec := "vecCovers", apart := false }
def VecCoversSaid : Prop := vecCoversRow.holds Try.pinned (OpenSpec.ofChange vecCoversSpec)

/-- ITS FALSE NEIGHBOUR: 'it returns false'. Refute it at one input. -/
def vecCoversWrong : ChangeSpec := { name := "vecCovers", fn := fun _ => fun
  | [d1, d2, d3] => { results := [.lit (.bool false)], args := [d1, d2, d3] }
  | _ => none }
def VecCoversWrongFalsely : Prop := vecCoversRow.holds Try.pinned (OpenSpec.ofChange vecCoversWrong)

/-- 'polyphonylaw03.VecDots': WHATEVER THE INPUT: true; the input reads as it did. -/
def vecDotsSpec : ChangeSpec := { name := "vecDots", fn := fun _ => fun
  | [d1, d2, d3] => { results := [.lit (.bool true)], args := [d1, d2, d3] }
  | _ => none }
def vecDotsRow : OpenClaim := { program := "ythjeginhoddmiaa", sum := "677a69a25f3bf738d0e2e765af8fac1f9ae2ea6564199df789761480749c3a6f", func := "polyphony/polyphonylaw03.VecDots", spec := "vecDots", apart := false }
def VecDotsSaid : Prop := vecDotsRow.holds Try.pinned (OpenSpec.ofChange vecDotsSpec)

/-- ITS FALSE NEIGHBOUR: 'it returns false'. Refute it at one input. -/
def vecDotsWrong : ChangeSpec := { name := "vecDots", fn := fun _ => fun
  | [d1, d2, d3] => { results := [.lit (.bool false)], args := [d1, d2, d3] }
  | _ => none }
def VecDotsWrongFalsely : Prop := vecDotsRow.holds Try.pinned (OpenSpec.ofChange vecDotsWrong)

/-- 'polyphonylaw03.VecPairs': WHATEVER THE INPUT: true; the input reads as it did. -/
def vecPairsSpec : ChangeSpec := { name := "vecPairs", fn := fun _ => fun
  | [d1, d2] => { results := [.lit (.bool true)], args := [d1, d2] }
  | _ => none }
def vecPairsRow : OpenClaim := { program := "ythjeginhoddmiaa", sum := "677a69a25f3bf738d0e2e765af8fac1f9ae2ea6564199df789761480749c3a6f", func := "polyphony/polyphonylaw03.VecPairs", spec := "vecPairs", apart := false }
def VecPairsSaid : Prop := vecPairsRow.holds Try.pinned (OpenSpec.ofChange vecPairsSpec)

/-- ITS FALSE NEIGHBOUR: 'it returns false'. Refute it at one input. -/
def vecPairsWrong : ChangeSpec := { name := "vecPairs", fn := fun _ => fun
  | [d1, d2] => { results := [.lit (.bool false)], args := [d1, d2] }
  | _ => none }
def VecPairsWrongFalsely : Prop := vecPairsRow.holds Try.pinned (OpenSpec.ofChange vecPairsWrong)

/-- 'polyphonylaw19.MatrixOrder': WHATEVER THE INPUT: true; the input reads as it did. -/
def matrixOrderSpec : ChangeSpec := { name := "matrixOrder", fn := fun _ => fun
  | [d1, d2] => { results := [.lit (.bool true)], args := [d1, d2] }
  | _ => none }
def matrixOrderRow : OpenClaim := { program := "ythjeginhoddmiaa", sum := "677a69a25f3bf738d0e2e765af8fac1f9ae2ea6564199df789761480749c3a6f", func := "polyphony/polyphonylaw19.MatrixOrder", spec := "matrixOrder", apart := false }
def MatrixOrderSaid : Prop := matrixOrderRow.holds Try.pinned (OpenSpec.ofChange matrixOrderSpec)

/-- ITS FALSE NEIGHBOUR: 'it returns false'. Refute it at one input. -/
def matrixOrderWrong : ChangeSpec := { name := "matrixOrder", fn := fun _ => fun
  | [d1, d2] => { results := [.lit (.bool false)], args := [d1, d2] }
  | _ => none }
def MatrixOrderWrongFalsely : Prop := matrixOrderRow.holds Try.pinned (OpenSpec.ofChange matrixOrderWrong)

/-- 'polyphonylaw19.MatrixPlays': WHATEVER THE INPUT: true; the input reads as it did. -/
def matrixPlaysSpec : ChangeSpec := { name := "matrixPlays", fn := fun _ => fun
  | [d1, d2, d3] => { results := [.lit (.bool true)], args := [d1, d2, d3] }
  | _ => none }
def matrixPlaysRow : OpenClaim := { program := "ythjeginhoddmiaa", sum := "677a69a25f3bf738d0e2e765af8fac1f9ae2ea6564199df789761480749c3a6f", func := "polyphony/polyphonylaw19.MatrixPlays", spec := "matrixPlays", apart := false }
def MatrixPlaysSaid : Prop := matrixPlaysRow.holds Try.pinned (OpenSpec.ofChange matrixPlaysSpec)

/-- ITS FALSE NEIGHBOUR: 'it returns false'. Refute it at one input. -/
def matrixPlaysWrong : ChangeSpec := { name := "matrixPlays", fn := fun _ => fun
  | [d1, d2, d3] => { results := [.lit (.bool false)], args := [d1, d2, d3] }
  | _ => none }
def MatrixPlaysWrongFalsely : Prop := matrixPlaysRow.holds Try.pinned (OpenSpec.ofChange matrixPlaysWrong)

/-- 'polyphonylaw19.MatrixRises': WHATEVER THE INPUT: true; the input reads as it did. -/
def matrixRisesSpec : ChangeSpec := { name := "matrixRises", fn := fun _ => fun
  | [d1, d2, d3] => { results := [.lit (.bool true)], args := [d1, d2, d3] }
  | _ => none }
def matrixRisesRow : OpenClaim := { program := "ythjeginhoddmiaa", sum := "677a69a25f3bf738d0e2e765af8fac1f9ae2ea6564199df789761480749c3a6f", func := "polyphony/polyphonylaw19.MatrixRises", spec := "matrixRises", apart := false }
def MatrixRisesSaid : Prop := matrixRisesRow.holds Try.pinned (OpenSpec.ofChange matrixRisesSpec)

/-- ITS FALSE NEIGHBOUR: 'it returns false'. Refute it at one input. -/
def matrixRisesWrong : ChangeSpec := { name := "matrixRises", fn := fun _ => fun
  | [d1, d2, d3] => { results := [.lit (.bool false)], args := [d1, d2, d3] }
  | _ => none }
def MatrixRisesWrongFalsely : Prop := matrixRisesRow.holds Try.pinned (OpenSpec.ofChange matrixRisesWrong)

/-- 'polyphonylaw19.MatrixNil': WHATEVER THE INPUT: true; the input reads as it did. -/
def matrixNilSpec : ChangeSpec := { name := "matrixNil", fn := fun _ => fun
  | [d1, d2] => { results := [.lit (.bool true)], args := [d1, d2] }
  | _ => none }
def matrixNilRow : OpenClaim := { program := "ythjeginhoddmiaa", sum := "677a69a25f3bf738d0e2e765af8fac1f9ae2ea6564199df789761480749c3a6f", func := "polyphony/polyphonylaw19.MatrixNil", spec := "matrixNil", apart := false }
def MatrixNilSaid : Prop := matrixNilRow.holds Try.pinned (OpenSpec.ofChange matrixNilSpec)

/-- ITS FALSE NEIGHBOUR: 'it returns false'. Refute it at one input. -/
def matrixNilWrong : ChangeSpec := { name := "matrixNil", fn := fun _ => fun
  | [d1, d2] => { results := [.lit (.bool false)], args := [d1, d2] }
  | _ => none }
def MatrixNilWrongFalsely : Prop := matrixNilRow.holds Try.pinned (OpenSpec.ofChange matrixNilWrong)

/-- 'polyphonylaw19.MatrixBelow': WHATEVER THE INPUT: true; the input reads as it did. -/
def matrixBelowSpec : ChangeSpec := { name := "matrixBelow", fn := fun _ => fun
  | [d1, d2, d3] => { results := [.lit (.bool true)], args := [d1, d2, d3] }
  | _ => none }
def matrixBelowRow : OpenClaim := { program := "ythjeginhoddmiaa", sum := "677a69a25f3bf738d0e2e765af8fac1f9ae2ea6564199df789761480749c3a6f", func := "polyphony/polyphonylaw19.MatrixBelow", spec := "matrixBelow", apart := false }
def MatrixBelowSaid : Prop := matrixBelowRow.holds Try.pinned (OpenSpec.ofChange matrixBelowSpec)

/-- ITS FALSE NEIGHBOUR: 'it returns false'. Refute it at one input. -/
def matrixBelowWrong : ChangeSpec := { name := "matrixBelow", fn := fun _ => fun
  | [d1, d2, d3] => { results := [.lit (.bool false)], args := [d1, d2, d3] }
  | _ => none }
def MatrixBelowWrongFalsely : Prop := matrixBelowRow.holds Try.pinned (OpenSpec.ofChange matrixBelowWrong)

/-- 'polyphonylaw03.VecCounts': WHATEVER THE INPUT: true; the input reads as it did. -/
def vecCountsSpec : ChangeSpec := { name := "vecCounts", fn := fun _ => fun
  | [d1, d2, d3] => { results := [.lit (.bool true)], args := [d1, d2, d3] }
  | _ => none }
def vecCountsRow : OpenClaim := { program := "ythjeginhoddmiaa", sum := "677a69a25f3bf738d0e2e765af8fac1f9ae2ea6564199df789761480749c3a6f", func := "polyphony/polyphonylaw03.VecCounts", spec := "vecCounts", apart := false }
def VecCountsSaid : Prop := vecCountsRow.holds Try.pinned (OpenSpec.ofChange vecCountsSpec)

/-- ITS FALSE NEIGHBOUR: 'it returns false'. Refute it at one input. -/
def vecCountsWrong : ChangeSpec := { name := "vecCounts", fn := fun _ => fun
  | [d1, d2, d3] => { results := [.lit (.bool false)], args := [d1, d2, d3] }
  | _ => none }
def VecCountsWrongFalsely : Prop := vecCountsRow.holds Try.pinned (OpenSpec.ofChange vecCountsWrong)

/- THE SECOND FORM. 'bulk': how many values and letters a reading holds, each counted each time it is reached (what is shared counts as often as it is met; a slice's spare places count too). A statement '..UptoSaid' is the law's where the arguments, and the package variables that the reading takes, are together of bulk at most 1048576: NARROWER than '..Said'. Prove '..Said' where nothing that the law and all that it calls make is longer than what came in: it says more and counts as full. Else prove '..UptoSaid'. A law counts once. -/
mutual
def uptoBulk {H : Type} : DataW H → Nat
  | .lit (.string bytes) => bytes.length + 1
  | .lit _ => 1
  | .nil => 1
  | .ptr d => uptoBulk d + 1
  | .slice elems spare => uptoBulkAll elems + uptoBulkAll spare + 1
  | .agg parts => uptoBulkAll parts + 1
  | .iface _ d => uptoBulk d + 1
  | .map entries => uptoBulkEntries entries + 1
  | .held _ => 1
def uptoBulkAll {H : Type} : List (DataW H) → Nat
  | [] => 0
  | d :: r => uptoBulk d + uptoBulkAll r
def uptoBulkEntries {H : Type} : List (Lit × DataW H) → Nat
  | [] => 0
  | x :: r => uptoBulkEntry x + uptoBulkEntries r
def uptoBulkEntry {H : Type} : Lit × DataW H → Nat
  | (.string bytes, d) => bytes.length + uptoBulk d + 1
  | (_, d) => uptoBulk d + 1
 end
def uptoSmall : (H : Type) → List (DataW H) → Bool := fun _ ds => decide (uptoBulkAll ds ≤ 1048576)
def OpenSpec.upto (s : _root_.Go.ChangeSpec) : _root_.Go.OpenSpec := { _root_.Go.OpenSpec.ofChange s with cond := some uptoSmall }

/-- 'polyphonylaw03.VecLattice', WHERE WHAT IT READS IS OF BULK AT MOST 1048576: true; the input reads as it did. -/
def vecLatticeUptoRow : OpenClaim := { program := "ythjeginhoddmiaa", sum := "677a69a25f3bf738d0e2e765af8fac1f9ae2ea6564199df789761480749c3a6f", func := "polyphony/polyphonylaw03.VecLattice", spec := "vecLattice", apart := false, narrowed := true }
def VecLatticeUptoSaid : Prop := vecLatticeUptoRow.holds Try.pinned (OpenSpec.upto vecLatticeSpec)

/-- 'polyphonylaw03.VecCovers', WHERE WHAT IT READS IS OF BULK AT MOST 1048576: true; the input reads as it did. -/
def vecCoversUptoRow : OpenClaim := { program := "ythjeginhoddmiaa", sum := "677a69a25f3bf738d0e2e765af8fac1f9ae2ea6564199df789761480749c3a6f", func := "polyphony/polyphonylaw03.VecCovers", spec := "vecCovers", apart := false, narrowed := true }
def VecCoversUptoSaid : Prop := vecCoversUptoRow.holds Try.pinned (OpenSpec.upto vecCoversSpec)

/-- 'polyphonylaw03.VecDots', WHERE WHAT IT READS IS OF BULK AT MOST 1048576: true; the input reads as it did. -/
def vecDotsUptoRow : OpenClaim := { program := "ythjeginhoddmiaa", sum := "677a69a25f3bf738d0e2e765af8fac1f9ae2ea6564199df789761480749c3a6f", func := "polyphony/polyphonylaw03.VecDots", spec := "vecDots", apart := false, narrowed := true }
def VecDotsUptoSaid : Prop := vecDotsUptoRow.holds Try.pinned (OpenSpec.upto vecDotsSpec)

/-- 'polyphonylaw03.VecPairs', WHERE WHAT IT READS IS OF BULK AT MOST 1048576: true; the input reads as it did. -/
def vecPairsUptoRow : OpenClaim := { program := "ythjeginhoddmiaa", sum := "677a69a25f3bf738d0e2e765af8fac1f9ae2ea6564199df789761480749c3a6f", func := "polyphony/polyphonylaw03.VecPairs", spec := "vecPairs", apart := false, narrowed := true }
def VecPairsUptoSaid : Prop := vecPairsUptoRow.holds Try.pinned (OpenSpec.upto vecPairsSpec)

/-- 'polyphonylaw19.MatrixOrder', WHERE WHAT IT READS IS OF BULK AT MOST 1048576: true; the input reads as it did. -/
def matrixOrderUptoRow : OpenClaim := { program := "ythjeginhoddmiaa", sum := "677a69a25f3bf738d0e2e765af8fac1f9ae2ea6564199df789761480749c3a6f", func := "polyphony/polyphonylaw19.MatrixOrder", spec := "matrixOrder", apart := false, narrowed := true }
def MatrixOrderUptoSaid : Prop := matrixOrderUptoRow.holds Try.pinned (OpenSpec.upto matrixOrderSpec)

/-- 'polyphonylaw19.MatrixPlays', WHERE WHAT IT READS IS OF BULK AT MOST 1048576: true; the input reads as it did. -/
def matrixPlaysUptoRow : OpenClaim := { program := "ythjeginhoddmiaa", sum := "677a69a25f3bf738d0e2e765af8fac1f9ae2ea6564199df789761480749c3a6f", func := "polyphony/polyphonylaw19.MatrixPlays", spec := "matrixPlays", apart := false, narrowed := true }
def MatrixPlaysUptoSaid : Prop := matrixPlaysUptoRow.holds Try.pinned (OpenSpec.upto matrixPlaysSpec)

/-- 'polyphonylaw19.MatrixRises', WHERE WHAT IT READS IS OF BULK AT MOST 1048576: true; the input reads as it did. -/
def matrixRisesUptoRow : OpenClaim := { program := "ythjeginhoddmiaa", sum := "677a69a25f3bf738d0e2e765af8fac1f9ae2ea6564199df789761480749c3a6f", func := "polyphony/polyphonylaw19.MatrixRises", spec := "matrixRises", apart := false, narrowed := true }
def MatrixRisesUptoSaid : Prop := matrixRisesUptoRow.holds Try.pinned (OpenSpec.upto matrixRisesSpec)

/-- 'polyphonylaw19.MatrixNil', WHERE WHAT IT READS IS OF BULK AT MOST 1048576: true; the input reads as it did. -/
def matrixNilUptoRow : OpenClaim := { program := "ythjeginhoddmiaa", sum := "677a69a25f3bf738d0e2e765af8fac1f9ae2ea6564199df789761480749c3a6f", func := "polyphony/polyphonylaw19.MatrixNil", spec := "matrixNil", apart := false, narrowed := true }
def MatrixNilUptoSaid : Prop := matrixNilUptoRow.holds Try.pinned (OpenSpec.upto matrixNilSpec)

/-- 'polyphonylaw19.MatrixBelow', WHERE WHAT IT READS IS OF BULK AT MOST 1048576: true; the input reads as it did. -/
def matrixBelowUptoRow : OpenClaim := { program := "ythjeginhoddmiaa", sum := "677a69a25f3bf738d0e2e765af8fac1f9ae2ea6564199df789761480749c3a6f", func := "polyphony/polyphonylaw19.MatrixBelow", spec := "matrixBelow", apart := false, narrowed := true }
def MatrixBelowUptoSaid : Prop := matrixBelowUptoRow.holds Try.pinned (OpenSpec.upto matrixBelowSpec)

/-- 'polyphonylaw03.VecCounts', WHERE WHAT IT READS IS OF BULK AT MOST 1048576: true; the input reads as it did. -/
def vecCountsUptoRow : OpenClaim := { program := "ythjeginhoddmiaa", sum := "677a69a25f3bf738d0e2e765af8fac1f9ae2ea6564199df789761480749c3a6f", func := "polyphony/polyphonylaw03.VecCounts", spec := "vecCounts", apart := false, narrowed := true }
def VecCountsUptoSaid : Prop := vecCountsUptoRow.holds Try.pinned (OpenSpec.upto vecCountsSpec)

end Rows
end Go.Proofs.Ythjeginhoddmiaa
