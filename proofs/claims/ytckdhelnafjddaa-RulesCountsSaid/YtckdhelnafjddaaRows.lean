/-
  No cell of these rows narrows 'for every input' (looked for: loops, veiled, ifaces, maps, wideKeys, modest, calm, conditions, laid).
  DERIVED. THE GIVEN ROWS OF THIS SEAT. 7 by the template 'for every input the law returns true; each argument reads behind the call as it read before'; 0 by the template 'total and deterministic' (their statements: YtckdhelnafjddaaTotals.lean).
  GIVEN WITH THE SEED: the statements are not yours to turn. If you find one false, say at which input.
  Laid BY PROGRAM, IN A SANDBOX (cutbox-rows.mjs): the forced cells as the released guide's own fill.sh prints them over the translation 7621029cdd1ec2e3… (all of the seat's roots in one cut). By AI agents, Wed Nov 11 2026. No macro, syntax, notation, axiom, sorry.
-/
import Derived.Test.YtckdhelnafjddaaChecked
import GoSem.Claim
import GoSem.ClaimJoined
import GoSem.ClaimMapViews
import Derived.JoinedTies
import Derived.KernelRfl
namespace Go.Proofs.Ytckdhelnafjddaa
/- THE CELL 'sum', in the pinned program and in every row, IS THE sha256 OF THE DUMP (.gsa) THAT YtckdhelnafjddaaProg.lean LOADS. Nothing in Lean hashes anything: it is a label: what it is worth is what the hold of that sum in a sandbox is worth. -/
noncomputable def Try.pinned : Pinned := { name := "ytckdhelnafjddaa", sum := "7621029cdd1ec2e3b4c1da37ee7cf91c4dd2ea0c97bef2090b15f90fc2c2844a", checked := Try.checked }
namespace Rows
def none {H : Type} : Left H := { results := [], args := [] }

/-- 'binnaclelaw08.FrameShort': WHATEVER THE INPUT: true; the input reads as it did. -/
def frameShortSpec : ChangeSpec := { name := "frameShort", fn := fun _ => fun
  | [d1, d2, d3] => { results := [.lit (.bool true)], args := [d1, d2, d3] }
  | _ => none }
def frameShortRow : OpenClaim := { program := "ytckdhelnafjddaa", sum := "7621029cdd1ec2e3b4c1da37ee7cf91c4dd2ea0c97bef2090b15f90fc2c2844a", func := "binnacle/binnaclelaw08.FrameShort", spec := "frameShort", apart := false }
def FrameShortSaid : Prop := frameShortRow.holds Try.pinned (OpenSpec.ofChange frameShortSpec)

/-- ITS FALSE NEIGHBOUR: 'it returns false'. Refute it at one input. -/
def frameShortWrong : ChangeSpec := { name := "frameShort", fn := fun _ => fun
  | [d1, d2, d3] => { results := [.lit (.bool false)], args := [d1, d2, d3] }
  | _ => none }
def FrameShortWrongFalsely : Prop := frameShortRow.holds Try.pinned (OpenSpec.ofChange frameShortWrong)

/-- 'binnaclelaw08.FrameParts': WHATEVER THE INPUT: true; the input reads as it did. -/
def framePartsSpec : ChangeSpec := { name := "frameParts", fn := fun _ => fun
  | [d1, d2] => { results := [.lit (.bool true)], args := [d1, d2] }
  | _ => none }
def framePartsRow : OpenClaim := { program := "ytckdhelnafjddaa", sum := "7621029cdd1ec2e3b4c1da37ee7cf91c4dd2ea0c97bef2090b15f90fc2c2844a", func := "binnacle/binnaclelaw08.FrameParts", spec := "frameParts", unfollowed := true, recurses := true, apart := false }
def FramePartsSaid : Prop := framePartsRow.holds Try.pinned (OpenSpec.ofChange framePartsSpec)

/-- ITS FALSE NEIGHBOUR: 'it returns false'. Refute it at one input. -/
def framePartsWrong : ChangeSpec := { name := "frameParts", fn := fun _ => fun
  | [d1, d2] => { results := [.lit (.bool false)], args := [d1, d2] }
  | _ => none }
def FramePartsWrongFalsely : Prop := framePartsRow.holds Try.pinned (OpenSpec.ofChange framePartsWrong)

/-- 'binnaclelaw08.FrameWords': WHATEVER THE INPUT: true; the input reads as it did. -/
def frameWordsSpec : ChangeSpec := { name := "frameWords", fn := fun _ => fun
  | [d1, d2, d3] => { results := [.lit (.bool true)], args := [d1, d2, d3] }
  | _ => none }
def frameWordsRow : OpenClaim := { program := "ytckdhelnafjddaa", sum := "7621029cdd1ec2e3b4c1da37ee7cf91c4dd2ea0c97bef2090b15f90fc2c2844a", func := "binnacle/binnaclelaw08.FrameWords", spec := "frameWords", unfollowed := true, recurses := true, apart := false }
def FrameWordsSaid : Prop := frameWordsRow.holds Try.pinned (OpenSpec.ofChange frameWordsSpec)

/-- ITS FALSE NEIGHBOUR: 'it returns false'. Refute it at one input. -/
def frameWordsWrong : ChangeSpec := { name := "frameWords", fn := fun _ => fun
  | [d1, d2, d3] => { results := [.lit (.bool false)], args := [d1, d2, d3] }
  | _ => none }
def FrameWordsWrongFalsely : Prop := frameWordsRow.holds Try.pinned (OpenSpec.ofChange frameWordsWrong)

/-- 'binnaclelaw28.ReplayAll': WHATEVER THE INPUT: true; the input reads as it did. -/
def replayAllSpec : ChangeSpec := { name := "replayAll", fn := fun _ => fun
  | [d1, d2] => { results := [.lit (.bool true)], args := [d1, d2] }
  | _ => none }
def replayAllRow : OpenClaim := { program := "ytckdhelnafjddaa", sum := "7621029cdd1ec2e3b4c1da37ee7cf91c4dd2ea0c97bef2090b15f90fc2c2844a", func := "binnacle/binnaclelaw28.ReplayAll", spec := "replayAll", inPlace := ["slices.overlaps[binnacle/span.Range]"], unfollowed := true, recurses := true, apart := false }
def ReplayAllSaid : Prop := replayAllRow.holds Try.pinned (OpenSpec.ofChange replayAllSpec)

/-- ITS FALSE NEIGHBOUR: 'it returns false'. Refute it at one input. -/
def replayAllWrong : ChangeSpec := { name := "replayAll", fn := fun _ => fun
  | [d1, d2] => { results := [.lit (.bool false)], args := [d1, d2] }
  | _ => none }
def ReplayAllWrongFalsely : Prop := replayAllRow.holds Try.pinned (OpenSpec.ofChange replayAllWrong)

/-- 'binnaclelaw28.ReplayOrder': WHATEVER THE INPUT: true; the input reads as it did. -/
def replayOrderSpec : ChangeSpec := { name := "replayOrder", fn := fun _ => fun
  | [d1, d2, d3, d4, d5, d6] => { results := [.lit (.bool true)], args := [d1, d2, d3, d4, d5, d6] }
  | _ => none }
def replayOrderRow : OpenClaim := { program := "ytckdhelnafjddaa", sum := "7621029cdd1ec2e3b4c1da37ee7cf91c4dd2ea0c97bef2090b15f90fc2c2844a", func := "binnacle/binnaclelaw28.ReplayOrder", spec := "replayOrder", inPlace := ["slices.overlaps[binnacle/span.Range]"], unfollowed := true, recurses := true, apart := false }
def ReplayOrderSaid : Prop := replayOrderRow.holds Try.pinned (OpenSpec.ofChange replayOrderSpec)

/-- ITS FALSE NEIGHBOUR: 'it returns false'. Refute it at one input. -/
def replayOrderWrong : ChangeSpec := { name := "replayOrder", fn := fun _ => fun
  | [d1, d2, d3, d4, d5, d6] => { results := [.lit (.bool false)], args := [d1, d2, d3, d4, d5, d6] }
  | _ => none }
def ReplayOrderWrongFalsely : Prop := replayOrderRow.holds Try.pinned (OpenSpec.ofChange replayOrderWrong)

/-- 'binnaclelaw31.RulesBent': WHATEVER THE INPUT: true; the input reads as it did. -/
def rulesBentSpec : ChangeSpec := { name := "rulesBent", fn := fun _ => fun
  | [d1, d2, d3] => { results := [.lit (.bool true)], args := [d1, d2, d3] }
  | _ => none }
def rulesBentRow : OpenClaim := { program := "ytckdhelnafjddaa", sum := "7621029cdd1ec2e3b4c1da37ee7cf91c4dd2ea0c97bef2090b15f90fc2c2844a", func := "binnacle/binnaclelaw31.RulesBent", spec := "rulesBent", inPlace := ["slices.overlaps[binnacle/span.Range]"], unfollowed := true, recurses := true, apart := false }
def RulesBentSaid : Prop := rulesBentRow.holds Try.pinned (OpenSpec.ofChange rulesBentSpec)

/-- ITS FALSE NEIGHBOUR: 'it returns false'. Refute it at one input. -/
def rulesBentWrong : ChangeSpec := { name := "rulesBent", fn := fun _ => fun
  | [d1, d2, d3] => { results := [.lit (.bool false)], args := [d1, d2, d3] }
  | _ => none }
def RulesBentWrongFalsely : Prop := rulesBentRow.holds Try.pinned (OpenSpec.ofChange rulesBentWrong)

/-- 'binnaclelaw31.RulesCounts': WHATEVER THE INPUT: true; the input reads as it did. -/
def rulesCountsSpec : ChangeSpec := { name := "rulesCounts", fn := fun _ => fun
  | [d] => { results := [.lit (.bool true)], args := [d] }
  | _ => none }
def rulesCountsRow : OpenClaim := { program := "ytckdhelnafjddaa", sum := "7621029cdd1ec2e3b4c1da37ee7cf91c4dd2ea0c97bef2090b15f90fc2c2844a", func := "binnacle/binnaclelaw31.RulesCounts", spec := "rulesCounts", inPlace := ["slices.overlaps[binnacle/span.Range]"], unfollowed := true, recurses := true, apart := false }
def RulesCountsSaid : Prop := rulesCountsRow.holds Try.pinned (OpenSpec.ofChange rulesCountsSpec)

/-- ITS FALSE NEIGHBOUR: 'it returns false'. Refute it at one input. -/
def rulesCountsWrong : ChangeSpec := { name := "rulesCounts", fn := fun _ => fun
  | [d] => { results := [.lit (.bool false)], args := [d] }
  | _ => none }
def RulesCountsWrongFalsely : Prop := rulesCountsRow.holds Try.pinned (OpenSpec.ofChange rulesCountsWrong)

/- THE SECOND FORM. 'bulk': how many values and letters a reading holds, each counted each time it is reached (what is shared counts as often as it is met; a slice's spare places count too). A statement '..UptoSaid' is the law's where the arguments, and the package variables that the reading takes, are together of bulk at most 1048576: NARROWER than '..Said'. Prove '..Said' where nothing that the law and all that it calls make is longer than what came in: it says more and counts as full. Else prove '..UptoSaid'. A law counts once. -/
mutual
def uptoBulk {H : Type} : DataW H → Nat
  | .lit (.string bytes) => bytes.length + 1
  | .lit _ => 1
  | .nil => 1
  | .ptr d => uptoBulk d + 1
  | .slice elems spare => uptoBulkAll elems + uptoBulkAll spare + 1
  | .agg parts => uptoBulkAll parts + 1
  | .iface _ d => uptoBulk d + 1
  | .map entries => uptoBulkEntries entries + 1
  | .held _ => 1
def uptoBulkAll {H : Type} : List (DataW H) → Nat
  | [] => 0
  | d :: r => uptoBulk d + uptoBulkAll r
def uptoBulkEntries {H : Type} : List (Lit × DataW H) → Nat
  | [] => 0
  | x :: r => uptoBulkEntry x + uptoBulkEntries r
def uptoBulkEntry {H : Type} : Lit × DataW H → Nat
  | (.string bytes, d) => bytes.length + uptoBulk d + 1
  | (_, d) => uptoBulk d + 1
 end
def uptoSmall : (H : Type) → List (DataW H) → Bool := fun _ ds => decide (uptoBulkAll ds ≤ 1048576)
def OpenSpec.upto (s : _root_.Go.ChangeSpec) : _root_.Go.OpenSpec := { _root_.Go.OpenSpec.ofChange s with cond := some uptoSmall }

/-- 'binnaclelaw08.FrameShort', WHERE WHAT IT READS IS OF BULK AT MOST 1048576: true; the input reads as it did. -/
def frameShortUptoRow : OpenClaim := { program := "ytckdhelnafjddaa", sum := "7621029cdd1ec2e3b4c1da37ee7cf91c4dd2ea0c97bef2090b15f90fc2c2844a", func := "binnacle/binnaclelaw08.FrameShort", spec := "frameShort", apart := false, narrowed := true }
def FrameShortUptoSaid : Prop := frameShortUptoRow.holds Try.pinned (OpenSpec.upto frameShortSpec)

/-- 'binnaclelaw08.FrameParts', WHERE WHAT IT READS IS OF BULK AT MOST 1048576: true; the input reads as it did. -/
def framePartsUptoRow : OpenClaim := { program := "ytckdhelnafjddaa", sum := "7621029cdd1ec2e3b4c1da37ee7cf91c4dd2ea0c97bef2090b15f90fc2c2844a", func := "binnacle/binnaclelaw08.FrameParts", spec := "frameParts", unfollowed := true, recurses := true, apart := false, narrowed := true }
def FramePartsUptoSaid : Prop := framePartsUptoRow.holds Try.pinned (OpenSpec.upto framePartsSpec)

/-- 'binnaclelaw08.FrameWords', WHERE WHAT IT READS IS OF BULK AT MOST 1048576: true; the input reads as it did. -/
def frameWordsUptoRow : OpenClaim := { program := "ytckdhelnafjddaa", sum := "7621029cdd1ec2e3b4c1da37ee7cf91c4dd2ea0c97bef2090b15f90fc2c2844a", func := "binnacle/binnaclelaw08.FrameWords", spec := "frameWords", unfollowed := true, recurses := true, apart := false, narrowed := true }
def FrameWordsUptoSaid : Prop := frameWordsUptoRow.holds Try.pinned (OpenSpec.upto frameWordsSpec)

/-- 'binnaclelaw28.ReplayAll', WHERE WHAT IT READS IS OF BULK AT MOST 1048576: true; the input reads as it did. -/
def replayAllUptoRow : OpenClaim := { program := "ytckdhelnafjddaa", sum := "7621029cdd1ec2e3b4c1da37ee7cf91c4dd2ea0c97bef2090b15f90fc2c2844a", func := "binnacle/binnaclelaw28.ReplayAll", spec := "replayAll", inPlace := ["slices.overlaps[binnacle/span.Range]"], unfollowed := true, recurses := true, apart := false, narrowed := true }
def ReplayAllUptoSaid : Prop := replayAllUptoRow.holds Try.pinned (OpenSpec.upto replayAllSpec)

/-- 'binnaclelaw28.ReplayOrder', WHERE WHAT IT READS IS OF BULK AT MOST 1048576: true; the input reads as it did. -/
def replayOrderUptoRow : OpenClaim := { program := "ytckdhelnafjddaa", sum := "7621029cdd1ec2e3b4c1da37ee7cf91c4dd2ea0c97bef2090b15f90fc2c2844a", func := "binnacle/binnaclelaw28.ReplayOrder", spec := "replayOrder", inPlace := ["slices.overlaps[binnacle/span.Range]"], unfollowed := true, recurses := true, apart := false, narrowed := true }
def ReplayOrderUptoSaid : Prop := replayOrderUptoRow.holds Try.pinned (OpenSpec.upto replayOrderSpec)

/-- 'binnaclelaw31.RulesBent', WHERE WHAT IT READS IS OF BULK AT MOST 1048576: true; the input reads as it did. -/
def rulesBentUptoRow : OpenClaim := { program := "ytckdhelnafjddaa", sum := "7621029cdd1ec2e3b4c1da37ee7cf91c4dd2ea0c97bef2090b15f90fc2c2844a", func := "binnacle/binnaclelaw31.RulesBent", spec := "rulesBent", inPlace := ["slices.overlaps[binnacle/span.Range]"], unfollowed := true, recurses := true, apart := false, narrowed := true }
def RulesBentUptoSaid : Prop := rulesBentUptoRow.holds Try.pinned (OpenSpec.upto rulesBentSpec)

/-- 'binnaclelaw31.RulesCounts', WHERE WHAT IT READS IS OF BULK AT MOST 1048576: true; the input reads as it did. -/
def rulesCountsUptoRow : OpenClaim := { program := "ytckdhelnafjddaa", sum := "7621029cdd1ec2e3b4c1da37ee7cf91c4dd2ea0c97bef2090b15f90fc2c2844a", func := "binnacle/binnaclelaw31.RulesCounts", spec := "rulesCounts", inPlace := ["slices.overlaps[binnacle/span.Range]"], unfollowed := true, recurses := true, apart := false, narrowed := true }
def RulesCountsUptoSaid : Prop := rulesCountsUptoRow.holds Try.pinned (OpenSpec.upto rulesCountsSpec)

end Rows
end Go.Proofs.Ytckdhelnafjddaa
