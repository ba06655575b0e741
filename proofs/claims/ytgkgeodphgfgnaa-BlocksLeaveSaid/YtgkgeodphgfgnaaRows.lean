/-
  No cell of these rows narrows 'for every input' (looked for: loops, veiled, ifaces, maps, wideKeys, modest, calm, conditions, laid).
  DERIVED. THE GIVEN ROWS OF THIS SEAT. 8 by the template 'for every input the law returns true; each argument reads behind the call as it read before'; 0 by the template 'total and deterministic' (their statements: YtgkgeodphgfgnaaTotals.lean).
  GIVEN WITH THE SEED: the statements are not yours to turn. If you find one false, say at which input.
  Laid BY PROGRAM, IN A SANDBOX (cutbox-rows.mjs): the forced cells as the released guide's own fill.sh prints them over the translation 5da9f55928cc7d68… (all of the seat's roots in one cut). By AI agents, Wed Nov 11 2026. No macro, syntax, notation, axiom, sorry.
-/
import Derived.Test.YtgkgeodphgfgnaaChecked
import GoSem.Claim
import GoSem.ClaimJoined
import GoSem.ClaimMapViews
import Derived.JoinedTies
import Derived.KernelRfl
namespace Go.Proofs.Ytgkgeodphgfgnaa
/- THE CELL 'sum', in the pinned program and in every row, IS THE sha256 OF THE DUMP (.gsa) THAT YtgkgeodphgfgnaaProg.lean LOADS. Nothing in Lean hashes anything: it is a label: what it is worth is what the hold of that sum in a sandbox is worth. -/
noncomputable def Try.pinned : Pinned := { name := "ytgkgeodphgfgnaa", sum := "5da9f55928cc7d686e7116d2dd4691766bfcbff1021eaa4e326da7858165560a", checked := Try.checked }
namespace Rows
def none {H : Type} : Left H := { results := [], args := [] }

/-- 'metrolablaw50.BlocksFewest': WHATEVER THE INPUT: true; the input reads as it did. -/
def blocksFewestSpec : ChangeSpec := { name := "blocksFewest", fn := fun _ => fun
  | [d1, d2] => { results := [.lit (.bool true)], args := [d1, d2] }
  | _ => none }
def blocksFewestRow : OpenClaim := { program := "ytgkgeodphgfgnaa", sum := "5da9f55928cc7d686e7116d2dd4691766bfcbff1021eaa4e326da7858165560a", func := "metrolab/metrolablaw50.BlocksFewest", spec := "blocksFewest", unfollowed := true, recurses := true, apart := false }
def BlocksFewestSaid : Prop := blocksFewestRow.holds Try.pinned (OpenSpec.ofChange blocksFewestSpec)

/-- ITS FALSE NEIGHBOUR: 'it returns false'. Refute it at one input. -/
def blocksFewestWrong : ChangeSpec := { name := "blocksFewest", fn := fun _ => fun
  | [d1, d2] => { results := [.lit (.bool false)], args := [d1, d2] }
  | _ => none }
def BlocksFewestWrongFalsely : Prop := blocksFewestRow.holds Try.pinned (OpenSpec.ofChange blocksFewestWrong)

/-- 'metrolablaw50.BlocksVerify': WHATEVER THE INPUT: true; the input reads as it did. -/
def blocksVerifySpec : ChangeSpec := { name := "blocksVerify", fn := fun _ => fun
  | [d1, d2, d3] => { results := [.lit (.bool true)], args := [d1, d2, d3] }
  | _ => none }
def blocksVerifyRow : OpenClaim := { program := "ytgkgeodphgfgnaa", sum := "5da9f55928cc7d686e7116d2dd4691766bfcbff1021eaa4e326da7858165560a", func := "metrolab/metrolablaw50.BlocksVerify", spec := "blocksVerify", unfollowed := true, recurses := true, apart := false }
def BlocksVerifySaid : Prop := blocksVerifyRow.holds Try.pinned (OpenSpec.ofChange blocksVerifySpec)

/-- ITS FALSE NEIGHBOUR: 'it returns false'. Refute it at one input. -/
def blocksVerifyWrong : ChangeSpec := { name := "blocksVerify", fn := fun _ => fun
  | [d1, d2, d3] => { results := [.lit (.bool false)], args := [d1, d2, d3] }
  | _ => none }
def BlocksVerifyWrongFalsely : Prop := blocksVerifyRow.holds Try.pinned (OpenSpec.ofChange blocksVerifyWrong)

/-- 'metrolablaw50.BlocksCounts': WHATEVER THE INPUT: true; the input reads as it did. -/
def blocksCountsSpec : ChangeSpec := { name := "blocksCounts", fn := fun _ => fun
  | [d1, d2, d3] => { results := [.lit (.bool true)], args := [d1, d2, d3] }
  | _ => none }
def blocksCountsRow : OpenClaim := { program := "ytgkgeodphgfgnaa", sum := "5da9f55928cc7d686e7116d2dd4691766bfcbff1021eaa4e326da7858165560a", func := "metrolab/metrolablaw50.BlocksCounts", spec := "blocksCounts", unfollowed := true, recurses := true, apart := false }
def BlocksCountsSaid : Prop := blocksCountsRow.holds Try.pinned (OpenSpec.ofChange blocksCountsSpec)

/-- ITS FALSE NEIGHBOUR: 'it returns false'. Refute it at one input. -/
def blocksCountsWrong : ChangeSpec := { name := "blocksCounts", fn := fun _ => fun
  | [d1, d2, d3] => { results := [.lit (.bool false)], args := [d1, d2, d3] }
  | _ => none }
def BlocksCountsWrongFalsely : Prop := blocksCountsRow.holds Try.pinned (OpenSpec.ofChange blocksCountsWrong)

/-- 'metrolablaw50.BlocksStandard': WHATEVER THE INPUT: true; the input reads as it did. -/
def blocksStandardSpec : ChangeSpec := { name := "blocksStandard", fn := fun _ => fun
  | [d1, d2] => { results := [.lit (.bool true)], args := [d1, d2] }
  | _ => none }
def blocksStandardRow : OpenClaim := { program := "ytgkgeodphgfgnaa", sum := "5da9f55928cc7d686e7116d2dd4691766bfcbff1021eaa4e326da7858165560a", func := "metrolab/metrolablaw50.BlocksStandard", spec := "blocksStandard", unfollowed := true, recurses := true, apart := false }
def BlocksStandardSaid : Prop := blocksStandardRow.holds Try.pinned (OpenSpec.ofChange blocksStandardSpec)

/-- ITS FALSE NEIGHBOUR: 'it returns false'. Refute it at one input. -/
def blocksStandardWrong : ChangeSpec := { name := "blocksStandard", fn := fun _ => fun
  | [d1, d2] => { results := [.lit (.bool false)], args := [d1, d2] }
  | _ => none }
def BlocksStandardWrongFalsely : Prop := blocksStandardRow.holds Try.pinned (OpenSpec.ofChange blocksStandardWrong)

/-- 'metrolablaw50.BlocksChecks': WHATEVER THE INPUT: true; the input reads as it did. -/
def blocksChecksSpec : ChangeSpec := { name := "blocksChecks", fn := fun _ => fun
  | [d1, d2] => { results := [.lit (.bool true)], args := [d1, d2] }
  | _ => none }
def blocksChecksRow : OpenClaim := { program := "ytgkgeodphgfgnaa", sum := "5da9f55928cc7d686e7116d2dd4691766bfcbff1021eaa4e326da7858165560a", func := "metrolab/metrolablaw50.BlocksChecks", spec := "blocksChecks", unfollowed := true, recurses := true, apart := false }
def BlocksChecksSaid : Prop := blocksChecksRow.holds Try.pinned (OpenSpec.ofChange blocksChecksSpec)

/-- ITS FALSE NEIGHBOUR: 'it returns false'. Refute it at one input. -/
def blocksChecksWrong : ChangeSpec := { name := "blocksChecks", fn := fun _ => fun
  | [d1, d2] => { results := [.lit (.bool false)], args := [d1, d2] }
  | _ => none }
def BlocksChecksWrongFalsely : Prop := blocksChecksRow.holds Try.pinned (OpenSpec.ofChange blocksChecksWrong)

/-- 'metrolablaw50.BlocksGrow': WHATEVER THE INPUT: true; the input reads as it did. -/
def blocksGrowSpec : ChangeSpec := { name := "blocksGrow", fn := fun _ => fun
  | [d1, d2, d3] => { results := [.lit (.bool true)], args := [d1, d2, d3] }
  | _ => none }
def blocksGrowRow : OpenClaim := { program := "ytgkgeodphgfgnaa", sum := "5da9f55928cc7d686e7116d2dd4691766bfcbff1021eaa4e326da7858165560a", func := "metrolab/metrolablaw50.BlocksGrow", spec := "blocksGrow", unfollowed := true, recurses := true, apart := false }
def BlocksGrowSaid : Prop := blocksGrowRow.holds Try.pinned (OpenSpec.ofChange blocksGrowSpec)

/-- ITS FALSE NEIGHBOUR: 'it returns false'. Refute it at one input. -/
def blocksGrowWrong : ChangeSpec := { name := "blocksGrow", fn := fun _ => fun
  | [d1, d2, d3] => { results := [.lit (.bool false)], args := [d1, d2, d3] }
  | _ => none }
def BlocksGrowWrongFalsely : Prop := blocksGrowRow.holds Try.pinned (OpenSpec.ofChange blocksGrowWrong)

/-- 'metrolablaw50.BlocksLeave': WHATEVER THE INPUT: true; the input reads as it did. -/
def blocksLeaveSpec : ChangeSpec := { name := "blocksLeave", fn := fun _ => fun
  | [d1, d2, d3] => { results := [.lit (.bool true)], args := [d1, d2, d3] }
  | _ => none }
def blocksLeaveRow : OpenClaim := { program := "ytgkgeodphgfgnaa", sum := "5da9f55928cc7d686e7116d2dd4691766bfcbff1021eaa4e326da7858165560a", func := "metrolab/metrolablaw50.BlocksLeave", spec := "blocksLeave", unfollowed := true, recurses := true, apart := false }
def BlocksLeaveSaid : Prop := blocksLeaveRow.holds Try.pinned (OpenSpec.ofChange blocksLeaveSpec)

/-- ITS FALSE NEIGHBOUR: 'it returns false'. Refute it at one input. -/
def blocksLeaveWrong : ChangeSpec := { name := "blocksLeave", fn := fun _ => fun
  | [d1, d2, d3] => { results := [.lit (.bool false)], args := [d1, d2, d3] }
  | _ => none }
def BlocksLeaveWrongFalsely : Prop := blocksLeaveRow.holds Try.pinned (OpenSpec.ofChange blocksLeaveWrong)

/-- 'metrolablaw50.BlocksReach': WHATEVER THE INPUT: true; the input reads as it did. -/
def blocksReachSpec : ChangeSpec := { name := "blocksReach", fn := fun _ => fun
  | [d1, d2, d3] => { results := [.lit (.bool true)], args := [d1, d2, d3] }
  | _ => none }
def blocksReachRow : OpenClaim := { program := "ytgkgeodphgfgnaa", sum := "5da9f55928cc7d686e7116d2dd4691766bfcbff1021eaa4e326da7858165560a", func := "metrolab/metrolablaw50.BlocksReach", spec := "blocksReach", unfollowed := true, recurses := true, apart := false }
def BlocksReachSaid : Prop := blocksReachRow.holds Try.pinned (OpenSpec.ofChange blocksReachSpec)

/-- ITS FALSE NEIGHBOUR: 'it returns false'. Refute it at one input. -/
def blocksReachWrong : ChangeSpec := { name := "blocksReach", fn := fun _ => fun
  | [d1, d2, d3] => { results := [.lit (.bool false)], args := [d1, d2, d3] }
  | _ => none }
def BlocksReachWrongFalsely : Prop := blocksReachRow.holds Try.pinned (OpenSpec.ofChange blocksReachWrong)

/- THE SECOND FORM. 'bulk': how many values and letters a reading holds, each counted each time it is reached (what is shared counts as often as it is met; a slice's spare places count too). A statement '..UptoSaid' is the law's where the arguments, and the package variables that the reading takes, are together of bulk at most 1048576: NARROWER than '..Said'. Prove '..Said' where nothing that the law and all that it calls make is longer than what came in: it says more and counts as full. Else prove '..UptoSaid'. A law counts once. -/
mutual
def uptoBulk {H : Type} : DataW H → Nat
  | .lit (.string bytes) => bytes.length + 1
  | .lit _ => 1
  | .nil => 1
  | .ptr d => uptoBulk d + 1
  | .slice elems spare => uptoBulkAll elems + uptoBulkAll spare + 1
  | .agg parts => uptoBulkAll parts + 1
  | .iface _ d => uptoBulk d + 1
  | .map entries => uptoBulkEntries entries + 1
  | .held _ => 1
def uptoBulkAll {H : Type} : List (DataW H) → Nat
  | [] => 0
  | d :: r => uptoBulk d + uptoBulkAll r
def uptoBulkEntries {H : Type} : List (Lit × DataW H) → Nat
  | [] => 0
  | x :: r => uptoBulkEntry x + uptoBulkEntries r
def uptoBulkEntry {H : Type} : Lit × DataW H → Nat
  | (.string bytes, d) => bytes.length + uptoBulk d + 1
  | (_, d) => uptoBulk d + 1
 end
def uptoSmall : (H : Type) → List (DataW H) → Bool := fun _ ds => decide (uptoBulkAll ds ≤ 1048576)
def OpenSpec.upto (s : _root_.Go.ChangeSpec) : _root_.Go.OpenSpec := { _root_.Go.OpenSpec.ofChange s with cond := some uptoSmall }

/-- 'metrolablaw50.BlocksFewest', WHERE WHAT IT READS IS OF BULK AT MOST 1048576: true; the input reads as it did. -/
def blocksFewestUptoRow : OpenClaim := { program := "ytgkgeodphgfgnaa", sum := "5da9f55928cc7d686e7116d2dd4691766bfcbff1021eaa4e326da7858165560a", func := "metrolab/metrolablaw50.BlocksFewest", spec := "blocksFewest", unfollowed := true, recurses := true, apart := false, narrowed := true }
def BlocksFewestUptoSaid : Prop := blocksFewestUptoRow.holds Try.pinned (OpenSpec.upto blocksFewestSpec)

/-- 'metrolablaw50.BlocksVerify', WHERE WHAT IT READS IS OF BULK AT MOST 1048576: true; the input reads as it did. -/
def blocksVerifyUptoRow : OpenClaim := { program := "ytgkgeodphgfgnaa", sum := "5da9f55928cc7d686e7116d2dd4691766bfcbff1021eaa4e326da7858165560a", func := "metrolab/metrolablaw50.BlocksVerify", spec := "blocksVerify", unfollowed := true, recurses := true, apart := false, narrowed := true }
def BlocksVerifyUptoSaid : Prop := blocksVerifyUptoRow.holds Try.pinned (OpenSpec.upto blocksVerifySpec)

/-- 'metrolablaw50.BlocksCounts', WHERE WHAT IT READS IS OF BULK AT MOST 1048576: true; the input reads as it did. -/
def blocksCountsUptoRow : OpenClaim := { program := "ytgkgeodphgfgnaa", sum := "5da9f55928cc7d686e7116d2dd4691766bfcbff1021eaa4e326da7858165560a", func := "metrolab/metrolablaw50.BlocksCounts", spec := "blocksCounts", unfollowed := true, recurses := true, apart := false, narrowed := true }
def BlocksCountsUptoSaid : Prop := blocksCountsUptoRow.holds Try.pinned (OpenSpec.upto blocksCountsSpec)

/-- 'metrolablaw50.BlocksStandard', WHERE WHAT IT READS IS OF BULK AT MOST 1048576: true; the input reads as it did. -/
def blocksStandardUptoRow : OpenClaim := { program := "ytgkgeodphgfgnaa", sum := "5da9f55928cc7d686e7116d2dd4691766bfcbff1021eaa4e326da7858165560a", func := "metrolab/metrolablaw50.BlocksStandard", spec := "blocksStandard", unfollowed := true, recurses := true, apart := false, narrowed := true }
def BlocksStandardUptoSaid : Prop := blocksStandardUptoRow.holds Try.pinned (OpenSpec.upto blocksStandardSpec)

/-- 'metrolablaw50.BlocksChecks', WHERE WHAT IT READS IS OF BULK AT MOST 1048576: true; the input reads as it did. -/
def blocksChecksUptoRow : OpenClaim := { program := "ytgkgeodphgfgnaa", sum := "5da9f55928cc7d686e7116d2dd4691766bfcbff1021eaa4e326da7858165560a", func := "metrolab/metrolablaw50.BlocksChecks", spec := "blocksChecks", unfollowed := true, recurses := true, apart := false, narrowed := true }
def BlocksChecksUptoSaid : Prop := blocksChecksUptoRow.holds Try.pinned (OpenSpec.upto blocksChecksSpec)

/-- 'metrolablaw50.BlocksGrow', WHERE WHAT IT READS IS OF BULK AT MOST 1048576: true; the input reads as it did. -/
def blocksGrowUptoRow : OpenClaim := { program := "ytgkgeodphgfgnaa", sum := "5da9f55928cc7d686e7116d2dd4691766bfcbff1021eaa4e326da7858165560a", func := "metrolab/metrolablaw50.BlocksGrow", spec := "blocksGrow", unfollowed := true, recurses := true, apart := false, narrowed := true }
def BlocksGrowUptoSaid : Prop := blocksGrowUptoRow.holds Try.pinned (OpenSpec.upto blocksGrowSpec)

/-- 'metrolablaw50.BlocksLeave', WHERE WHAT IT READS IS OF BULK AT MOST 1048576: true; the input reads as it did. -/
def blocksLeaveUptoRow : OpenClaim := { program := "ytgkgeodphgfgnaa", sum := "5da9f55928cc7d686e7116d2dd4691766bfcbff1021eaa4e326da7858165560a", func := "metrolab/metrolablaw50.BlocksLeave", spec := "blocksLeave", unfollowed := true, recurses := true, apart := false, narrowed := true }
def BlocksLeaveUptoSaid : Prop := blocksLeaveUptoRow.holds Try.pinned (OpenSpec.upto blocksLeaveSpec)

/-- 'metrolablaw50.BlocksReach', WHERE WHAT IT READS IS OF BULK AT MOST 1048576: true; the input reads as it did. -/
def blocksReachUptoRow : OpenClaim := { program := "ytgkgeodphgfgnaa", sum := "5da9f55928cc7d686e7116d2dd4691766bfcbff1021eaa4e326da7858165560a", func := "metrolab/metrolablaw50.BlocksReach", spec := "blocksReach", unfollowed := true, recurses := true, apart := false, narrowed := true }
def BlocksReachUptoSaid : Prop := blocksReachUptoRow.holds Try.pinned (OpenSpec.upto blocksReachSpec)

end Rows
end Go.Proofs.Ytgkgeodphgfgnaa
