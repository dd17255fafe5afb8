/-
  No cell of these rows narrows 'for every input' (looked for: loops, veiled, ifaces, maps, wideKeys, modest, calm, conditions, laid).
  DERIVED. THE GIVEN ROWS OF THIS SEAT. 7 by the template 'for every input the law returns true; each argument reads behind the call as it read before'; 0 by the template 'total and deterministic' (their statements: YtpdckjfkkiameaaTotals.lean).
  GIVEN WITH THE SEED: the statements are not yours to turn. If you find one false, say at which input.
  Laid BY PROGRAM, IN A SANDBOX (cutbox-rows.mjs): the forced cells as the released guide's own fill.sh prints them over the translation a0e386130ce8359e… (all of the seat's roots in one cut). By AI agents, Wed Nov 11 2026. No macro, syntax, notation, axiom, sorry.
-/
import Derived.Test.YtpdckjfkkiameaaChecked
import GoSem.Claim
import GoSem.ClaimJoined
import GoSem.ClaimMapViews
import Derived.JoinedTies
import Derived.KernelRfl
namespace Go.Proofs.Ytpdckjfkkiameaa
/- THE CELL 'sum', in the pinned program and in every row, IS THE sha256 OF THE DUMP (.gsa) THAT YtpdckjfkkiameaaProg.lean LOADS. Nothing in Lean hashes anything: it is a label: what it is worth is what the hold of that sum in a sandbox is worth. -/
noncomputable def Try.pinned : Pinned := { name := "ytpdckjfkkiameaa", sum := "a0e386130ce8359e43c7f7bb308ab005ea33ede9eb4b08cd01ffe54555548221", checked := Try.checked }
namespace Rows
def none {H : Type} : Left H := { results := [], args := [] }

/-- 'polyphonylaw20.PeerPlays': WHATEVER THE INPUT: true; the input reads as it did. -/
def peerPlaysSpec : ChangeSpec := { name := "peerPlays", fn := fun _ => fun
  | [d1, d2] => { results := [.lit (.bool true)], args := [d1, d2] }
  | _ => none }
def peerPlaysRow : OpenClaim := { program := "ytpdckjfkkiameaa", sum := "a0e386130ce8359e43c7f7bb308ab005ea33ede9eb4b08cd01ffe54555548221", func := "polyphony/polyphonylaw20.PeerPlays", spec := "peerPlays", unfollowed := true, recurses := true, apart := false }
def PeerPlaysSaid : Prop := peerPlaysRow.holds Try.pinned (OpenSpec.ofChange peerPlaysSpec)

/-- ITS FALSE NEIGHBOUR: 'it returns false'. Refute it at one input. -/
def peerPlaysWrong : ChangeSpec := { name := "peerPlays", fn := fun _ => fun
  | [d1, d2] => { results := [.lit (.bool false)], args := [d1, d2] }
  | _ => none }
def PeerPlaysWrongFalsely : Prop := peerPlaysRow.holds Try.pinned (OpenSpec.ofChange peerPlaysWrong)

/-- 'polyphonylaw20.PeerNil': WHATEVER THE INPUT: true; the input reads as it did. -/
def peerNilSpec : ChangeSpec := { name := "peerNil", fn := fun _ => fun
  | [d1, d2] => { results := [.lit (.bool true)], args := [d1, d2] }
  | _ => none }
def peerNilRow : OpenClaim := { program := "ytpdckjfkkiameaa", sum := "a0e386130ce8359e43c7f7bb308ab005ea33ede9eb4b08cd01ffe54555548221", func := "polyphony/polyphonylaw20.PeerNil", spec := "peerNil", unfollowed := true, recurses := true, apart := false }
def PeerNilSaid : Prop := peerNilRow.holds Try.pinned (OpenSpec.ofChange peerNilSpec)

/-- ITS FALSE NEIGHBOUR: 'it returns false'. Refute it at one input. -/
def peerNilWrong : ChangeSpec := { name := "peerNil", fn := fun _ => fun
  | [d1, d2] => { results := [.lit (.bool false)], args := [d1, d2] }
  | _ => none }
def PeerNilWrongFalsely : Prop := peerNilRow.holds Try.pinned (OpenSpec.ofChange peerNilWrong)

/-- 'polyphonylaw20.PeerServes': WHATEVER THE INPUT: true; the input reads as it did. -/
def peerServesSpec : ChangeSpec := { name := "peerServes", fn := fun _ => fun
  | [d1, d2, d3, d4] => { results := [.lit (.bool true)], args := [d1, d2, d3, d4] }
  | _ => none }
def peerServesRow : OpenClaim := { program := "ytpdckjfkkiameaa", sum := "a0e386130ce8359e43c7f7bb308ab005ea33ede9eb4b08cd01ffe54555548221", func := "polyphony/polyphonylaw20.PeerServes", spec := "peerServes", apart := false }
def PeerServesSaid : Prop := peerServesRow.holds Try.pinned (OpenSpec.ofChange peerServesSpec)

/-- ITS FALSE NEIGHBOUR: 'it returns false'. Refute it at one input. -/
def peerServesWrong : ChangeSpec := { name := "peerServes", fn := fun _ => fun
  | [d1, d2, d3, d4] => { results := [.lit (.bool false)], args := [d1, d2, d3, d4] }
  | _ => none }
def PeerServesWrongFalsely : Prop := peerServesRow.holds Try.pinned (OpenSpec.ofChange peerServesWrong)

/-- 'polyphonylaw20.PeerPart': WHATEVER THE INPUT: true; the input reads as it did. -/
def peerPartSpec : ChangeSpec := { name := "peerPart", fn := fun _ => fun
  | [d1, d2, d3, d4] => { results := [.lit (.bool true)], args := [d1, d2, d3, d4] }
  | _ => none }
def peerPartRow : OpenClaim := { program := "ytpdckjfkkiameaa", sum := "a0e386130ce8359e43c7f7bb308ab005ea33ede9eb4b08cd01ffe54555548221", func := "polyphony/polyphonylaw20.PeerPart", spec := "peerPart", apart := false }
def PeerPartSaid : Prop := peerPartRow.holds Try.pinned (OpenSpec.ofChange peerPartSpec)

/-- ITS FALSE NEIGHBOUR: 'it returns false'. Refute it at one input. -/
def peerPartWrong : ChangeSpec := { name := "peerPart", fn := fun _ => fun
  | [d1, d2, d3, d4] => { results := [.lit (.bool false)], args := [d1, d2, d3, d4] }
  | _ => none }
def PeerPartWrongFalsely : Prop := peerPartRow.holds Try.pinned (OpenSpec.ofChange peerPartWrong)

/-- 'polyphonylaw20.PeerTrims': WHATEVER THE INPUT: true; the input reads as it did. -/
def peerTrimsSpec : ChangeSpec := { name := "peerTrims", fn := fun _ => fun
  | [d1, d2, d3, d4, d5] => { results := [.lit (.bool true)], args := [d1, d2, d3, d4, d5] }
  | _ => none }
def peerTrimsRow : OpenClaim := { program := "ytpdckjfkkiameaa", sum := "a0e386130ce8359e43c7f7bb308ab005ea33ede9eb4b08cd01ffe54555548221", func := "polyphony/polyphonylaw20.PeerTrims", spec := "peerTrims", unfollowed := true, recurses := true, apart := false }
def PeerTrimsSaid : Prop := peerTrimsRow.holds Try.pinned (OpenSpec.ofChange peerTrimsSpec)

/-- ITS FALSE NEIGHBOUR: 'it returns false'. Refute it at one input. -/
def peerTrimsWrong : ChangeSpec := { name := "peerTrims", fn := fun _ => fun
  | [d1, d2, d3, d4, d5] => { results := [.lit (.bool false)], args := [d1, d2, d3, d4, d5] }
  | _ => none }
def PeerTrimsWrongFalsely : Prop := peerTrimsRow.holds Try.pinned (OpenSpec.ofChange peerTrimsWrong)

/-- 'polyphonylaw20.PeerBoxes': WHATEVER THE INPUT: true; the input reads as it did. -/
def peerBoxesSpec : ChangeSpec := { name := "peerBoxes", fn := fun _ => fun
  | [d1, d2] => { results := [.lit (.bool true)], args := [d1, d2] }
  | _ => none }
def peerBoxesRow : OpenClaim := { program := "ytpdckjfkkiameaa", sum := "a0e386130ce8359e43c7f7bb308ab005ea33ede9eb4b08cd01ffe54555548221", func := "polyphony/polyphonylaw20.PeerBoxes", spec := "peerBoxes", apart := false }
def PeerBoxesSaid : Prop := peerBoxesRow.holds Try.pinned (OpenSpec.ofChange peerBoxesSpec)

/-- ITS FALSE NEIGHBOUR: 'it returns false'. Refute it at one input. -/
def peerBoxesWrong : ChangeSpec := { name := "peerBoxes", fn := fun _ => fun
  | [d1, d2] => { results := [.lit (.bool false)], args := [d1, d2] }
  | _ => none }
def PeerBoxesWrongFalsely : Prop := peerBoxesRow.holds Try.pinned (OpenSpec.ofChange peerBoxesWrong)

/-- 'polyphonylaw20.PeerWaits': WHATEVER THE INPUT: true; the input reads as it did. -/
def peerWaitsSpec : ChangeSpec := { name := "peerWaits", fn := fun _ => fun
  | [d1, d2] => { results := [.lit (.bool true)], args := [d1, d2] }
  | _ => none }
def peerWaitsRow : OpenClaim := { program := "ytpdckjfkkiameaa", sum := "a0e386130ce8359e43c7f7bb308ab005ea33ede9eb4b08cd01ffe54555548221", func := "polyphony/polyphonylaw20.PeerWaits", spec := "peerWaits", apart := false }
def PeerWaitsSaid : Prop := peerWaitsRow.holds Try.pinned (OpenSpec.ofChange peerWaitsSpec)

/-- ITS FALSE NEIGHBOUR: 'it returns false'. Refute it at one input. -/
def peerWaitsWrong : ChangeSpec := { name := "peerWaits", fn := fun _ => fun
  | [d1, d2] => { results := [.lit (.bool false)], args := [d1, d2] }
  | _ => none }
def PeerWaitsWrongFalsely : Prop := peerWaitsRow.holds Try.pinned (OpenSpec.ofChange peerWaitsWrong)

/- THE SECOND FORM. 'bulk': how many values and letters a reading holds, each counted each time it is reached (what is shared counts as often as it is met; a slice's spare places count too). A statement '..UptoSaid' is the law's where the arguments, and the package variables that the reading takes, are together of bulk at most 1048576: NARROWER than '..Said'. Prove '..Said' where nothing that the law and all that it calls make is longer than what came in: it says more and counts as full. Else prove '..UptoSaid'. A law counts once. -/
mutual
def uptoBulk {H : Type} : DataW H → Nat
  | .lit (.string bytes) => bytes.length + 1
  | .lit _ => 1
  | .nil => 1
  | .ptr d => uptoBulk d + 1
  | .slice elems spare => uptoBulkAll elems + uptoBulkAll spare + 1
  | .agg parts => uptoBulkAll parts + 1
  | .iface _ d => uptoBulk d + 1
  | .map entries => uptoBulkEntries entries + 1
  | .held _ => 1
def uptoBulkAll {H : Type} : List (DataW H) → Nat
  | [] => 0
  | d :: r => uptoBulk d + uptoBulkAll r
def uptoBulkEntries {H : Type} : List (Lit × DataW H) → Nat
  | [] => 0
  | x :: r => uptoBulkEntry x + uptoBulkEntries r
def uptoBulkEntry {H : Type} : Lit × DataW H → Nat
  | (.string bytes, d) => bytes.length + uptoBulk d + 1
  | (_, d) => uptoBulk d + 1
 end
def uptoSmall : (H : Type) → List (DataW H) → Bool := fun _ ds => decide (uptoBulkAll ds ≤ 1048576)
def OpenSpec.upto (s : _root_.Go.ChangeSpec) : _root_.Go.OpenSpec := { _root_.Go.OpenSpec.ofChange s with cond := some uptoSmall }

/-- 'polyphonylaw20.PeerPlays', WHERE WHAT IT READS IS OF BULK AT MOST 1048576: true; the input reads as it did. -/
def peerPlaysUptoRow : OpenClaim := { program := "ytpdckjfkkiameaa", sum := "a0e386130ce8359e43c7f7bb308ab005ea33ede9eb4b08cd01ffe54555548221", func := "polyphony/polyphonylaw20.PeerPlays", spec := "peerPlays", unfollowed := true, recurses := true, apart := false, narrowed := true }
def PeerPlaysUptoSaid : Prop := peerPlaysUptoRow.holds Try.pinned (OpenSpec.upto peerPlaysSpec)

/-- 'polyphonylaw20.PeerNil', WHERE WHAT IT READS IS OF BULK AT MOST 1048576: true; the input reads as it did. -/
def peerNilUptoRow : OpenClaim := { program := "ytpdckjfkkiameaa", sum := "a0e386130ce8359e43c7f7bb308ab005ea33ede9eb4b08cd01ffe54555548221", func := "polyphony/polyphonylaw20.PeerNil", spec := "peerNil", unfollowed := true, recurses := true, apart := false, narrowed := true }
def PeerNilUptoSaid : Prop := peerNilUptoRow.holds Try.pinned (OpenSpec.upto peerNilSpec)

/-- 'polyphonylaw20.PeerServes', WHERE WHAT IT READS IS OF BULK AT MOST 1048576: true; the input reads as it did. -/
def peerServesUptoRow : OpenClaim := { program := "ytpdckjfkkiameaa", sum := "a0e386130ce8359e43c7f7bb308ab005ea33ede9eb4b08cd01ffe54555548221", func := "polyphony/polyphonylaw20.PeerServes", spec := "peerServes", apart := false, narrowed := true }
def PeerServesUptoSaid : Prop := peerServesUptoRow.holds Try.pinned (OpenSpec.upto peerServesSpec)

/-- 'polyphonylaw20.PeerPart', WHERE WHAT IT READS IS OF BULK AT MOST 1048576: true; the input reads as it did. -/
def peerPartUptoRow : OpenClaim := { program := "ytpdckjfkkiameaa", sum := "a0e386130ce8359e43c7f7bb308ab005ea33ede9eb4b08cd01ffe54555548221", func := "polyphony/polyphonylaw20.PeerPart", spec := "peerPart", apart := false, narrowed := true }
def PeerPartUptoSaid : Prop := peerPartUptoRow.holds Try.pinned (OpenSpec.upto peerPartSpec)

/-- 'polyphonylaw20.PeerTrims', WHERE WHAT IT READS IS OF BULK AT MOST 1048576: true; the input reads as it did. -/
def peerTrimsUptoRow : OpenClaim := { program := "ytpdckjfkkiameaa", sum := "a0e386130ce8359e43c7f7bb308ab005ea33ede9eb4b08cd01ffe54555548221", func := "polyphony/polyphonylaw20.PeerTrims", spec := "peerTrims", unfollowed := true, recurses := true, apart := false, narrowed := true }
def PeerTrimsUptoSaid : Prop := peerTrimsUptoRow.holds Try.pinned (OpenSpec.upto peerTrimsSpec)

/-- 'polyphonylaw20.PeerBoxes', WHERE WHAT IT READS IS OF BULK AT MOST 1048576: true; the input reads as it did. -/
def peerBoxesUptoRow : OpenClaim := { program := "ytpdckjfkkiameaa", sum := "a0e386130ce8359e43c7f7bb308ab005ea33ede9eb4b08cd01ffe54555548221", func := "polyphony/polyphonylaw20.PeerBoxes", spec := "peerBoxes", apart := false, narrowed := true }
def PeerBoxesUptoSaid : Prop := peerBoxesUptoRow.holds Try.pinned (OpenSpec.upto peerBoxesSpec)

/-- 'polyphonylaw20.PeerWaits', WHERE WHAT IT READS IS OF BULK AT MOST 1048576: true; the input reads as it did. -/
def peerWaitsUptoRow : OpenClaim := { program := "ytpdckjfkkiameaa", sum := "a0e386130ce8359e43c7f7bb308ab005ea33ede9eb4b08cd01ffe54555548221", func := "polyphony/polyphonylaw20.PeerWaits", spec := "peerWaits", apart := false, narrowed := true }
def PeerWaitsUptoSaid : Prop := peerWaitsUptoRow.holds Try.pinned (OpenSpec.upto peerWaitsSpec)

end Rows
end Go.Proofs.Ytpdckjfkkiameaa
