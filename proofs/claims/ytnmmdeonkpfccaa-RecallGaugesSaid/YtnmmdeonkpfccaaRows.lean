/-
  No cell of these rows narrows 'for every input' (looked for: loops, veiled, ifaces, maps, wideKeys, modest, calm, conditions, laid).
  DERIVED. THE GIVEN ROWS OF THIS SEAT. 6 by the template 'for every input the law returns true; each argument reads behind the call as it read before'; 0 by the template 'total and deterministic' (their statements: YtnmmdeonkpfccaaTotals.lean).
  GIVEN WITH THE SEED: the statements are not yours to turn. If you find one false, say at which input.
  Laid BY PROGRAM, IN A SANDBOX (cutbox-rows.mjs): the forced cells as the released guide's own fill.sh prints them over the translation da9eb90e037221c7… (all of the seat's roots in one cut). By AI agents, Wed Nov 11 2026. No macro, syntax, notation, axiom, sorry.
-/
import Derived.Test.YtnmmdeonkpfccaaChecked
import GoSem.Claim
import GoSem.ClaimJoined
import GoSem.ClaimMapViews
import Derived.JoinedTies
import Derived.KernelRfl
namespace Go.Proofs.Ytnmmdeonkpfccaa
/- THE CELL 'sum', in the pinned program and in every row, IS THE sha256 OF THE DUMP (.gsa) THAT YtnmmdeonkpfccaaProg.lean LOADS. Nothing in Lean hashes anything: it is a label: what it is worth is what the hold of that sum in a sandbox is worth. -/
noncomputable def Try.pinned : Pinned := { name := "ytnmmdeonkpfccaa", sum := "da9eb90e037221c78a3b18105b7bfae44a6fa39434dd4d10dd3af5fdc934cf25", checked := Try.checked }
namespace Rows
def none {H : Type} : Left H := { results := [], args := [] }

/-- 'metrolablaw53.RecallStates': WHATEVER THE INPUT: true; the input reads as it did. -/
def recallStatesSpec : ChangeSpec := { name := "recallStates", fn := fun _ => fun
  | [d] => { results := [.lit (.bool true)], args := [d] }
  | _ => none }
def recallStatesRow : OpenClaim := { program := "ytnmmdeonkpfccaa", sum := "da9eb90e037221c78a3b18105b7bfae44a6fa39434dd4d10dd3af5fdc934cf25", func := "metrolab/metrolablaw53.RecallStates", spec := "recallStates", unfollowed := true, recurses := true, apart := false }
def RecallStatesSaid : Prop := recallStatesRow.holds Try.pinned (OpenSpec.ofChange recallStatesSpec)

/-- ITS FALSE NEIGHBOUR: 'it returns false'. Refute it at one input. -/
def recallStatesWrong : ChangeSpec := { name := "recallStates", fn := fun _ => fun
  | [d] => { results := [.lit (.bool false)], args := [d] }
  | _ => none }
def RecallStatesWrongFalsely : Prop := recallStatesRow.holds Try.pinned (OpenSpec.ofChange recallStatesWrong)

/-- 'metrolablaw53.RecallLots': WHATEVER THE INPUT: true; the input reads as it did. -/
def recallLotsSpec : ChangeSpec := { name := "recallLots", fn := fun _ => fun
  | [d] => { results := [.lit (.bool true)], args := [d] }
  | _ => none }
def recallLotsRow : OpenClaim := { program := "ytnmmdeonkpfccaa", sum := "da9eb90e037221c78a3b18105b7bfae44a6fa39434dd4d10dd3af5fdc934cf25", func := "metrolab/metrolablaw53.RecallLots", spec := "recallLots", unfollowed := true, recurses := true, apart := false }
def RecallLotsSaid : Prop := recallLotsRow.holds Try.pinned (OpenSpec.ofChange recallLotsSpec)

/-- ITS FALSE NEIGHBOUR: 'it returns false'. Refute it at one input. -/
def recallLotsWrong : ChangeSpec := { name := "recallLots", fn := fun _ => fun
  | [d] => { results := [.lit (.bool false)], args := [d] }
  | _ => none }
def RecallLotsWrongFalsely : Prop := recallLotsRow.holds Try.pinned (OpenSpec.ofChange recallLotsWrong)

/-- 'metrolablaw53.RecallReasons': WHATEVER THE INPUT: true; the input reads as it did. -/
def recallReasonsSpec : ChangeSpec := { name := "recallReasons", fn := fun _ => fun
  | [d1, d2] => { results := [.lit (.bool true)], args := [d1, d2] }
  | _ => none }
def recallReasonsRow : OpenClaim := { program := "ytnmmdeonkpfccaa", sum := "da9eb90e037221c78a3b18105b7bfae44a6fa39434dd4d10dd3af5fdc934cf25", func := "metrolab/metrolablaw53.RecallReasons", spec := "recallReasons", unfollowed := true, recurses := true, apart := false }
def RecallReasonsSaid : Prop := recallReasonsRow.holds Try.pinned (OpenSpec.ofChange recallReasonsSpec)

/-- ITS FALSE NEIGHBOUR: 'it returns false'. Refute it at one input. -/
def recallReasonsWrong : ChangeSpec := { name := "recallReasons", fn := fun _ => fun
  | [d1, d2] => { results := [.lit (.bool false)], args := [d1, d2] }
  | _ => none }
def RecallReasonsWrongFalsely : Prop := recallReasonsRow.holds Try.pinned (OpenSpec.ofChange recallReasonsWrong)

/-- 'metrolablaw53.RecallGauges': WHATEVER THE INPUT: true; the input reads as it did. -/
def recallGaugesSpec : ChangeSpec := { name := "recallGauges", fn := fun _ => fun
  | [d1, d2] => { results := [.lit (.bool true)], args := [d1, d2] }
  | _ => none }
def recallGaugesRow : OpenClaim := { program := "ytnmmdeonkpfccaa", sum := "da9eb90e037221c78a3b18105b7bfae44a6fa39434dd4d10dd3af5fdc934cf25", func := "metrolab/metrolablaw53.RecallGauges", spec := "recallGauges", unfollowed := true, recurses := true, apart := false }
def RecallGaugesSaid : Prop := recallGaugesRow.holds Try.pinned (OpenSpec.ofChange recallGaugesSpec)

/-- ITS FALSE NEIGHBOUR: 'it returns false'. Refute it at one input. -/
def recallGaugesWrong : ChangeSpec := { name := "recallGauges", fn := fun _ => fun
  | [d1, d2] => { results := [.lit (.bool false)], args := [d1, d2] }
  | _ => none }
def RecallGaugesWrongFalsely : Prop := recallGaugesRow.holds Try.pinned (OpenSpec.ofChange recallGaugesWrong)

/-- 'metrolablaw53.RecallEnds': WHATEVER THE INPUT: true; the input reads as it did. -/
def recallEndsSpec : ChangeSpec := { name := "recallEnds", fn := fun _ => fun
  | [d] => { results := [.lit (.bool true)], args := [d] }
  | _ => none }
def recallEndsRow : OpenClaim := { program := "ytnmmdeonkpfccaa", sum := "da9eb90e037221c78a3b18105b7bfae44a6fa39434dd4d10dd3af5fdc934cf25", func := "metrolab/metrolablaw53.RecallEnds", spec := "recallEnds", unfollowed := true, recurses := true, apart := false }
def RecallEndsSaid : Prop := recallEndsRow.holds Try.pinned (OpenSpec.ofChange recallEndsSpec)

/-- ITS FALSE NEIGHBOUR: 'it returns false'. Refute it at one input. -/
def recallEndsWrong : ChangeSpec := { name := "recallEnds", fn := fun _ => fun
  | [d] => { results := [.lit (.bool false)], args := [d] }
  | _ => none }
def RecallEndsWrongFalsely : Prop := recallEndsRow.holds Try.pinned (OpenSpec.ofChange recallEndsWrong)

/-- 'metrolablaw53.RecallRisks': WHATEVER THE INPUT: true; the input reads as it did. -/
def recallRisksSpec : ChangeSpec := { name := "recallRisks", fn := fun _ => fun
  | [d1, d2] => { results := [.lit (.bool true)], args := [d1, d2] }
  | _ => none }
def recallRisksRow : OpenClaim := { program := "ytnmmdeonkpfccaa", sum := "da9eb90e037221c78a3b18105b7bfae44a6fa39434dd4d10dd3af5fdc934cf25", func := "metrolab/metrolablaw53.RecallRisks", spec := "recallRisks", unfollowed := true, recurses := true, apart := false }
def RecallRisksSaid : Prop := recallRisksRow.holds Try.pinned (OpenSpec.ofChange recallRisksSpec)

/-- ITS FALSE NEIGHBOUR: 'it returns false'. Refute it at one input. -/
def recallRisksWrong : ChangeSpec := { name := "recallRisks", fn := fun _ => fun
  | [d1, d2] => { results := [.lit (.bool false)], args := [d1, d2] }
  | _ => none }
def RecallRisksWrongFalsely : Prop := recallRisksRow.holds Try.pinned (OpenSpec.ofChange recallRisksWrong)

/- THE SECOND FORM. 'bulk': how many values and letters a reading holds, each counted each time it is reached (what is shared counts as often as it is met; a slice's spare places count too). A statement '..UptoSaid' is the law's where the arguments, and the package variables that the reading takes, are together of bulk at most 1048576: NARROWER than '..Said'. Prove '..Said' where nothing that the law and all that it calls make is longer than what came in: it says more and counts as full. Else prove '..UptoSaid'. A law counts once. -/
mutual
def uptoBulk {H : Type} : DataW H → Nat
  | .lit (.string bytes) => bytes.length + 1
  | .lit _ => 1
  | .nil => 1
  | .ptr d => uptoBulk d + 1
  | .slice elems spare => uptoBulkAll elems + uptoBulkAll spare + 1
  | .agg parts => uptoBulkAll parts + 1
  | .iface _ d => uptoBulk d + 1
  | .map entries => uptoBulkEntries entries + 1
  | .held _ => 1
def uptoBulkAll {H : Type} : List (DataW H) → Nat
  | [] => 0
  | d :: r => uptoBulk d + uptoBulkAll r
def uptoBulkEntries {H : Type} : List (Lit × DataW H) → Nat
  | [] => 0
  | x :: r => uptoBulkEntry x + uptoBulkEntries r
def uptoBulkEntry {H : Type} : Lit × DataW H → Nat
  | (.string bytes, d) => bytes.length + uptoBulk d + 1
  | (_, d) => uptoBulk d + 1
 end
def uptoSmall : (H : Type) → List (DataW H) → Bool := fun _ ds => decide (uptoBulkAll ds ≤ 1048576)
def OpenSpec.upto (s : _root_.Go.ChangeSpec) : _root_.Go.OpenSpec := { _root_.Go.OpenSpec.ofChange s with cond := some uptoSmall }

/-- 'metrolablaw53.RecallStates', WHERE WHAT IT READS IS OF BULK AT MOST 1048576: true; the input reads as it did. -/
def recallStatesUptoRow : OpenClaim := { program := "ytnmmdeonkpfccaa", sum := "da9eb90e037221c78a3b18105b7bfae44a6fa39434dd4d10dd3af5fdc934cf25", func := "metrolab/metrolablaw53.RecallStates", spec := "recallStates", unfollowed := true, recurses := true, apart := false, narrowed := true }
def RecallStatesUptoSaid : Prop := recallStatesUptoRow.holds Try.pinned (OpenSpec.upto recallStatesSpec)

/-- 'metrolablaw53.RecallLots', WHERE WHAT IT READS IS OF BULK AT MOST 1048576: true; the input reads as it did. -/
def recallLotsUptoRow : OpenClaim := { program := "ytnmmdeonkpfccaa", sum := "da9eb90e037221c78a3b18105b7bfae44a6fa39434dd4d10dd3af5fdc934cf25", func := "metrolab/metrolablaw53.RecallLots", spec := "recallLots", unfollowed := true, recurses := true, apart := false, narrowed := true }
def RecallLotsUptoSaid : Prop := recallLotsUptoRow.holds Try.pinned (OpenSpec.upto recallLotsSpec)

/-- 'metrolablaw53.RecallReasons', WHERE WHAT IT READS IS OF BULK AT MOST 1048576: true; the input reads as it did. -/
def recallReasonsUptoRow : OpenClaim := { program := "ytnmmdeonkpfccaa", sum := "da9eb90e037221c78a3b18105b7bfae44a6fa39434dd4d10dd3af5fdc934cf25", func := "metrolab/metrolablaw53.RecallReasons", spec := "recallReasons", unfollowed := true, recurses := true, apart := false, narrowed := true }
def RecallReasonsUptoSaid : Prop := recallReasonsUptoRow.holds Try.pinned (OpenSpec.upto recallReasonsSpec)

/-- 'metrolablaw53.RecallGauges', WHERE WHAT IT READS IS OF BULK AT MOST 1048576: true; the input reads as it did. -/
def recallGaugesUptoRow : OpenClaim := { program := "ytnmmdeonkpfccaa", sum := "da9eb90e037221c78a3b18105b7bfae44a6fa39434dd4d10dd3af5fdc934cf25", func := "metrolab/metrolablaw53.RecallGauges", spec := "recallGauges", unfollowed := true, recurses := true, apart := false, narrowed := true }
def RecallGaugesUptoSaid : Prop := recallGaugesUptoRow.holds Try.pinned (OpenSpec.upto recallGaugesSpec)

/-- 'metrolablaw53.RecallEnds', WHERE WHAT IT READS IS OF BULK AT MOST 1048576: true; the input reads as it did. -/
def recallEndsUptoRow : OpenClaim := { program := "ytnmmdeonkpfccaa", sum := "da9eb90e037221c78a3b18105b7bfae44a6fa39434dd4d10dd3af5fdc934cf25", func := "metrolab/metrolablaw53.RecallEnds", spec := "recallEnds", unfollowed := true, recurses := true, apart := false, narrowed := true }
def RecallEndsUptoSaid : Prop := recallEndsUptoRow.holds Try.pinned (OpenSpec.upto recallEndsSpec)

/-- 'metrolablaw53.RecallRisks', WHERE WHAT IT READS IS OF BULK AT MOST 1048576: true; the input reads as it did. -/
def recallRisksUptoRow : OpenClaim := { program := "ytnmmdeonkpfccaa", sum := "da9eb90e037221c78a3b18105b7bfae44a6fa39434dd4d10dd3af5fdc934cf25", func := "metrolab/metrolablaw53.RecallRisks", spec := "recallRisks", unfollowed := true, recurses := true, apart := false, narrowed := true }
def RecallRisksUptoSaid : Prop := recallRisksUptoRow.holds Try.pinned (OpenSpec.upto recallRisksSpec)

end Rows
end Go.Proofs.Ytnmmdeonkpfccaa
