/-
  No cell of these rows narrows 'for every input' (looked for: loops, veiled, ifaces, maps, wideKeys, modest, calm, conditions, laid).
  DERIVED. THE GIVEN ROWS OF THIS SEAT. 5 by the template 'for every input the law returns true; each argument reads behind the call as it read before'; 0 by the template 'total and deterministic' (their statements: YtikeeekjelampaaTotals.lean).
  GIVEN WITH THE SEED: the statements are not yours to turn. If you find one false, say at which input.
  Laid BY PROGRAM, IN A SANDBOX (cutbox-rows.mjs): the forced cells as the released guide's own fill.sh prints them over the translation 99c4634386dce315… (all of the seat's roots in one cut). By AI agents, Wed Nov 11 2026. No macro, syntax, notation, axiom, sorry.
-/
import Derived.Test.YtikeeekjelampaaChecked
import GoSem.Claim
import GoSem.ClaimJoined
import GoSem.ClaimMapViews
import Derived.JoinedTies
import Derived.KernelRfl
namespace Go.Proofs.Ytikeeekjelampaa
/- THE CELL 'sum', in the pinned program and in every row, IS THE sha256 OF THE DUMP (.gsa) THAT YtikeeekjelampaaProg.lean LOADS. Nothing in Lean hashes anything: it is a label: what it is worth is what the hold of that sum in a sandbox is worth. -/
noncomputable def Try.pinned : Pinned := { name := "ytikeeekjelampaa", sum := "99c4634386dce315b01c5fd3fd21e417a21fc2ba1f317c71033691212a35b6e0", checked := Try.checked }
namespace Rows
def none {H : Type} : Left H := { results := [], args := [] }

/-- 'polyphonylaw04.HlcTwo': WHATEVER THE INPUT: true; the input reads as it did. -/
def hlcTwoSpec : ChangeSpec := { name := "hlcTwo", fn := fun _ => fun
  | [d1, d2, d3] => { results := [.lit (.bool true)], args := [d1, d2, d3] }
  | _ => none }
def hlcTwoRow : OpenClaim := { program := "ytikeeekjelampaa", sum := "99c4634386dce315b01c5fd3fd21e417a21fc2ba1f317c71033691212a35b6e0", func := "polyphony/polyphonylaw04.HlcTwo", spec := "hlcTwo", apart := false }
def HlcTwoSaid : Prop := hlcTwoRow.holds Try.pinned (OpenSpec.ofChange hlcTwoSpec)

/-- ITS FALSE NEIGHBOUR: 'it returns false'. Refute it at one input. -/
def hlcTwoWrong : ChangeSpec := { name := "hlcTwo", fn := fun _ => fun
  | [d1, d2, d3] => { results := [.lit (.bool false)], args := [d1, d2, d3] }
  | _ => none }
def HlcTwoWrongFalsely : Prop := hlcTwoRow.holds Try.pinned (OpenSpec.ofChange hlcTwoWrong)

/-- 'polyphonylaw04.HlcWalls': WHATEVER THE INPUT: true; the input reads as it did. -/
def hlcWallsSpec : ChangeSpec := { name := "hlcWalls", fn := fun _ => fun
  | [d] => { results := [.lit (.bool true)], args := [d] }
  | _ => none }
def hlcWallsRow : OpenClaim := { program := "ytikeeekjelampaa", sum := "99c4634386dce315b01c5fd3fd21e417a21fc2ba1f317c71033691212a35b6e0", func := "polyphony/polyphonylaw04.HlcWalls", spec := "hlcWalls", apart := false }
def HlcWallsSaid : Prop := hlcWallsRow.holds Try.pinned (OpenSpec.ofChange hlcWallsSpec)

/-- ITS FALSE NEIGHBOUR: 'it returns false'. Refute it at one input. -/
def hlcWallsWrong : ChangeSpec := { name := "hlcWalls", fn := fun _ => fun
  | [d] => { results := [.lit (.bool false)], args := [d] }
  | _ => none }
def HlcWallsWrongFalsely : Prop := hlcWallsRow.holds Try.pinned (OpenSpec.ofChange hlcWallsWrong)

/-- 'polyphonylaw04.HlcPlays': WHATEVER THE INPUT: true; the input reads as it did. -/
def hlcPlaysSpec : ChangeSpec := { name := "hlcPlays", fn := fun _ => fun
  | [d1, d2] => { results := [.lit (.bool true)], args := [d1, d2] }
  | _ => none }
def hlcPlaysRow : OpenClaim := { program := "ytikeeekjelampaa", sum := "99c4634386dce315b01c5fd3fd21e417a21fc2ba1f317c71033691212a35b6e0", func := "polyphony/polyphonylaw04.HlcPlays", spec := "hlcPlays", apart := false }
def HlcPlaysSaid : Prop := hlcPlaysRow.holds Try.pinned (OpenSpec.ofChange hlcPlaysSpec)

/-- ITS FALSE NEIGHBOUR: 'it returns false'. Refute it at one input. -/
def hlcPlaysWrong : ChangeSpec := { name := "hlcPlays", fn := fun _ => fun
  | [d1, d2] => { results := [.lit (.bool false)], args := [d1, d2] }
  | _ => none }
def HlcPlaysWrongFalsely : Prop := hlcPlaysRow.holds Try.pinned (OpenSpec.ofChange hlcPlaysWrong)

/-- 'polyphonylaw04.HlcNil': WHATEVER THE INPUT: true; the input reads as it did. -/
def hlcNilSpec : ChangeSpec := { name := "hlcNil", fn := fun _ => fun
  | [d] => { results := [.lit (.bool true)], args := [d] }
  | _ => none }
def hlcNilRow : OpenClaim := { program := "ytikeeekjelampaa", sum := "99c4634386dce315b01c5fd3fd21e417a21fc2ba1f317c71033691212a35b6e0", func := "polyphony/polyphonylaw04.HlcNil", spec := "hlcNil", apart := false }
def HlcNilSaid : Prop := hlcNilRow.holds Try.pinned (OpenSpec.ofChange hlcNilSpec)

/-- ITS FALSE NEIGHBOUR: 'it returns false'. Refute it at one input. -/
def hlcNilWrong : ChangeSpec := { name := "hlcNil", fn := fun _ => fun
  | [d] => { results := [.lit (.bool false)], args := [d] }
  | _ => none }
def HlcNilWrongFalsely : Prop := hlcNilRow.holds Try.pinned (OpenSpec.ofChange hlcNilWrong)

/-- 'polyphonylaw04.HlcRises': WHATEVER THE INPUT: true; the input reads as it did. -/
def hlcRisesSpec : ChangeSpec := { name := "hlcRises", fn := fun _ => fun
  | [d1, d2] => { results := [.lit (.bool true)], args := [d1, d2] }
  | _ => none }
def hlcRisesRow : OpenClaim := { program := "ytikeeekjelampaa", sum := "99c4634386dce315b01c5fd3fd21e417a21fc2ba1f317c71033691212a35b6e0", func := "polyphony/polyphonylaw04.HlcRises", spec := "hlcRises", apart := false }
def HlcRisesSaid : Prop := hlcRisesRow.holds Try.pinned (OpenSpec.ofChange hlcRisesSpec)

/-- ITS FALSE NEIGHBOUR: 'it returns false'. Refute it at one input. -/
def hlcRisesWrong : ChangeSpec := { name := "hlcRises", fn := fun _ => fun
  | [d1, d2] => { results := [.lit (.bool false)], args := [d1, d2] }
  | _ => none }
def HlcRisesWrongFalsely : Prop := hlcRisesRow.holds Try.pinned (OpenSpec.ofChange hlcRisesWrong)

/- THE SECOND FORM. 'bulk': how many values and letters a reading holds, each counted each time it is reached (what is shared counts as often as it is met; a slice's spare places count too). A statement '..UptoSaid' is the law's where the arguments, and the package variables that the reading takes, are together of bulk at most 1048576: NARROWER than '..Said'. Prove '..Said' where nothing that the law and all that it calls make is longer than what came in: it says more and counts as full. Else prove '..UptoSaid'. A law counts once. -/
mutual
def uptoBulk {H : Type} : DataW H → Nat
  | .lit (.string bytes) => bytes.length + 1
  | .lit _ => 1
  | .nil => 1
  | .ptr d => uptoBulk d + 1
  | .slice elems spare => uptoBulkAll elems + uptoBulkAll spare + 1
  | .agg parts => uptoBulkAll parts + 1
  | .iface _ d => uptoBulk d + 1
  | .map entries => uptoBulkEntries entries + 1
  | .held _ => 1
def uptoBulkAll {H : Type} : List (DataW H) → Nat
  | [] => 0
  | d :: r => uptoBulk d + uptoBulkAll r
def uptoBulkEntries {H : Type} : List (Lit × DataW H) → Nat
  | [] => 0
  | x :: r => uptoBulkEntry x + uptoBulkEntries r
def uptoBulkEntry {H : Type} : Lit × DataW H → Nat
  | (.string bytes, d) => bytes.length + uptoBulk d + 1
  | (_, d) => uptoBulk d + 1
 end
def uptoSmall : (H : Type) → List (DataW H) → Bool := fun _ ds => decide (uptoBulkAll ds ≤ 1048576)
def OpenSpec.upto (s : _root_.Go.ChangeSpec) : _root_.Go.OpenSpec := { _root_.Go.OpenSpec.ofChange s with cond := some uptoSmall }

/-- 'polyphonylaw04.HlcTwo', WHERE WHAT IT READS IS OF BULK AT MOST 1048576: true; the input reads as it did. -/
def hlcTwoUptoRow : OpenClaim := { program := "ytikeeekjelampaa", sum := "99c4634386dce315b01c5fd3fd21e417a21fc2ba1f317c71033691212a35b6e0", func := "polyphony/polyphonylaw04.HlcTwo", spec := "hlcTwo", apart := false, narrowed := true }
def HlcTwoUptoSaid : Prop := hlcTwoUptoRow.holds Try.pinned (OpenSpec.upto hlcTwoSpec)

/-- 'polyphonylaw04.HlcWalls', WHERE WHAT IT READS IS OF BULK AT MOST 1048576: true; the input reads as it did. -/
def hlcWallsUptoRow : OpenClaim := { program := "ytikeeekjelampaa", sum := "99c4634386dce315b01c5fd3fd21e417a21fc2ba1f317c71033691212a35b6e0", func := "polyphony/polyphonylaw04.HlcWalls", spec := "hlcWalls", apart := false, narrowed := true }
def HlcWallsUptoSaid : Prop := hlcWallsUptoRow.holds Try.pinned (OpenSpec.upto hlcWallsSpec)

/-- 'polyphonylaw04.HlcPlays', WHERE WHAT IT READS IS OF BULK AT MOST 1048576: true; the input reads as it did. -/
def hlcPlaysUptoRow : OpenClaim := { program := "ytikeeekjelampaa", sum := "99c4634386dce315b01c5fd3fd21e417a21fc2ba1f317c71033691212a35b6e0", func := "polyphony/polyphonylaw04.HlcPlays", spec := "hlcPlays", apart := false, narrowed := true }
def HlcPlaysUptoSaid : Prop := hlcPlaysUptoRow.holds Try.pinned (OpenSpec.upto hlcPlaysSpec)

/-- 'polyphonylaw04.HlcNil', WHERE WHAT IT READS IS OF BULK AT MOST 1048576: true; the input reads as it did. -/
def hlcNilUptoRow : OpenClaim := { program := "ytikeeekjelampaa", sum := "99c4634386dce315b01c5fd3fd21e417a21fc2ba1f317c71033691212a35b6e0", func := "polyphony/polyphonylaw04.HlcNil", spec := "hlcNil", apart := false, narrowed := true }
def HlcNilUptoSaid : Prop := hlcNilUptoRow.holds Try.pinned (OpenSpec.upto hlcNilSpec)

/-- 'polyphonylaw04.HlcRises', WHERE WHAT IT READS IS OF BULK AT MOST 1048576: true; the input reads as it did. -/
def hlcRisesUptoRow : OpenClaim := { program := "ytikeeekjelampaa", sum := "99c4634386dce315b01c5fd3fd21e417a21fc2ba1f317c71033691212a35b6e0", func := "polyphony/polyphonylaw04.HlcRises", spec := "hlcRises", apart := false, narrowed := true }
def HlcRisesUptoSaid : Prop := hlcRisesUptoRow.holds Try.pinned (OpenSpec.upto hlcRisesSpec)

end Rows
end Go.Proofs.Ytikeeekjelampaa
