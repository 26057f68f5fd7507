/-
  No cell of these rows narrows 'for every input' (looked for: loops, veiled, ifaces, maps, wideKeys, modest, calm, conditions, laid).
  DERIVED. THE GIVEN ROWS OF THIS SEAT. 4 by the template 'for every input the law returns true; each argument reads behind the call as it read before'; 0 by the template 'total and deterministic' (their statements: YtlollnhoghledaaTotals.lean).
  GIVEN WITH THE SEED: the statements are not yours to turn. If you find one false, say at which input.
  Laid BY PROGRAM, IN A SANDBOX (cutbox-rows.mjs): the forced cells as the released guide's own fill.sh prints them over the translation ca4b3c5940bd8687… (all of the seat's roots in one cut). By AI agents, Wed Nov 11 2026. No macro, syntax, notation, axiom, sorry.
-/
import Derived.Test.YtlollnhoghledaaChecked
import GoSem.Claim
import GoSem.ClaimJoined
import GoSem.ClaimMapViews
import Derived.JoinedTies
import Derived.KernelRfl
namespace Go.Proofs.Ytlollnhoghledaa
/- THE CELL 'sum', in the pinned program and in every row, IS THE sha256 OF THE DUMP (.gsa) THAT YtlollnhoghledaaProg.lean LOADS. Nothing in Lean hashes anything: it is a label: what it is worth is what the hold of that sum in a sandbox is worth. -/
noncomputable def Try.pinned : Pinned := { name := "ytlollnhoghledaa", sum := "ca4b3c5940bd8687778e0db5468d90292123de16c9e305104b35233740c79f87", checked := Try.checked }
namespace Rows
def none {H : Type} : Left H := { results := [], args := [] }

/-- 'binnaclelaw23.PathRoom': WHATEVER THE INPUT: true; the input reads as it did. -/
def pathRoomSpec : ChangeSpec := { name := "pathRoom", fn := fun _ => fun
  | [d1, d2] => { results := [.lit (.bool true)], args := [d1, d2] }
  | _ => none }
def pathRoomRow : OpenClaim := { program := "ytlollnhoghledaa", sum := "ca4b3c5940bd8687778e0db5468d90292123de16c9e305104b35233740c79f87", func := "binnacle/binnaclelaw23.PathRoom", spec := "pathRoom", apart := false }
def PathRoomSaid : Prop := pathRoomRow.holds Try.pinned (OpenSpec.ofChange pathRoomSpec)

/-- ITS FALSE NEIGHBOUR: 'it returns false'. Refute it at one input. -/
def pathRoomWrong : ChangeSpec := { name := "pathRoom", fn := fun _ => fun
  | [d1, d2] => { results := [.lit (.bool false)], args := [d1, d2] }
  | _ => none }
def PathRoomWrongFalsely : Prop := pathRoomRow.holds Try.pinned (OpenSpec.ofChange pathRoomWrong)

/-- 'binnaclelaw23.PathTwo': WHATEVER THE INPUT: true; the input reads as it did. -/
def pathTwoSpec : ChangeSpec := { name := "pathTwo", fn := fun _ => fun
  | [d1, d2] => { results := [.lit (.bool true)], args := [d1, d2] }
  | _ => none }
def pathTwoRow : OpenClaim := { program := "ytlollnhoghledaa", sum := "ca4b3c5940bd8687778e0db5468d90292123de16c9e305104b35233740c79f87", func := "binnacle/binnaclelaw23.PathTwo", spec := "pathTwo", apart := false }
def PathTwoSaid : Prop := pathTwoRow.holds Try.pinned (OpenSpec.ofChange pathTwoSpec)

/-- ITS FALSE NEIGHBOUR: 'it returns false'. Refute it at one input. -/
def pathTwoWrong : ChangeSpec := { name := "pathTwo", fn := fun _ => fun
  | [d1, d2] => { results := [.lit (.bool false)], args := [d1, d2] }
  | _ => none }
def PathTwoWrongFalsely : Prop := pathTwoRow.holds Try.pinned (OpenSpec.ofChange pathTwoWrong)

/-- 'binnaclelaw23.PathPlays': WHATEVER THE INPUT: true; the input reads as it did. -/
def pathPlaysSpec : ChangeSpec := { name := "pathPlays", fn := fun _ => fun
  | [d1, d2, d3] => { results := [.lit (.bool true)], args := [d1, d2, d3] }
  | _ => none }
def pathPlaysRow : OpenClaim := { program := "ytlollnhoghledaa", sum := "ca4b3c5940bd8687778e0db5468d90292123de16c9e305104b35233740c79f87", func := "binnacle/binnaclelaw23.PathPlays", spec := "pathPlays", apart := false }
def PathPlaysSaid : Prop := pathPlaysRow.holds Try.pinned (OpenSpec.ofChange pathPlaysSpec)

/-- ITS FALSE NEIGHBOUR: 'it returns false'. Refute it at one input. -/
def pathPlaysWrong : ChangeSpec := { name := "pathPlays", fn := fun _ => fun
  | [d1, d2, d3] => { results := [.lit (.bool false)], args := [d1, d2, d3] }
  | _ => none }
def PathPlaysWrongFalsely : Prop := pathPlaysRow.holds Try.pinned (OpenSpec.ofChange pathPlaysWrong)

/-- 'binnaclelaw23.PathNone': WHATEVER THE INPUT: true; the input reads as it did. -/
def pathNoneSpec : ChangeSpec := { name := "pathNone", fn := fun _ => fun
  | [d1, d2, d3] => { results := [.lit (.bool true)], args := [d1, d2, d3] }
  | _ => none }
def pathNoneRow : OpenClaim := { program := "ytlollnhoghledaa", sum := "ca4b3c5940bd8687778e0db5468d90292123de16c9e305104b35233740c79f87", func := "binnacle/binnaclelaw23.PathNone", spec := "pathNone", apart := false }
def PathNoneSaid : Prop := pathNoneRow.holds Try.pinned (OpenSpec.ofChange pathNoneSpec)

/-- ITS FALSE NEIGHBOUR: 'it returns false'. Refute it at one input. -/
def pathNoneWrong : ChangeSpec := { name := "pathNone", fn := fun _ => fun
  | [d1, d2, d3] => { results := [.lit (.bool false)], args := [d1, d2, d3] }
  | _ => none }
def PathNoneWrongFalsely : Prop := pathNoneRow.holds Try.pinned (OpenSpec.ofChange pathNoneWrong)

/- THE SECOND FORM. 'bulk': how many values and letters a reading holds, each counted each time it is reached (what is shared counts as often as it is met; a slice's spare places count too). A statement '..UptoSaid' is the law's where the arguments, and the package variables that the reading takes, are together of bulk at most 1048576: NARROWER than '..Said'. Prove '..Said' where nothing that the law and all that it calls make is longer than what came in: it says more and counts as full. Else prove '..UptoSaid'. A law counts once. -/
mutual
def uptoBulk {H : Type} : DataW H → Nat
  | .lit (.string bytes) => bytes.length + 1
  | .lit _ => 1
  | .nil => 1
  | .ptr d => uptoBulk d + 1
  | .slice elems spare => uptoBulkAll elems + uptoBulkAll spare + 1
  | .agg parts => uptoBulkAll parts + 1
  | .iface _ d => uptoBulk d + 1
  | .map entries => uptoBulkEntries entries + 1
  | .held _ => 1
def uptoBulkAll {H : Type} : List (DataW H) → Nat
  | [] => 0
  | d :: r => uptoBulk d + uptoBulkAll r
def uptoBulkEntries {H : Type} : List (Lit × DataW H) → Nat
  | [] => 0
  | x :: r => uptoBulkEntry x + uptoBulkEntries r
def uptoBulkEntry {H : Type} : Lit × DataW H → Nat
  | (.string bytes, d) => bytes.length + uptoBulk d + 1
  | (_, d) => uptoBulk d + 1
 end
def uptoSmall : (H : Type) → List (DataW H) → Bool := fun _ ds => decide (uptoBulkAll ds ≤ 1048576)
def OpenSpec.upto (s : _root_.Go.ChangeSpec) : _root_.Go.OpenSpec := { _root_.Go.OpenSpec.ofChange s with cond := some uptoSmall }

/-- 'binnaclelaw23.PathRoom', WHERE WHAT IT READS IS OF BULK AT MOST 1048576: true; the input reads as it did. -/
def pathRoomUptoRow : OpenClaim := { program := "ytlollnhoghledaa", sum := "ca4b3c5940bd8687778e0db5468d90292123de16c9e305104b35233740c79f87", func := "binnacle/binnaclelaw23.PathRoom", spec := "pathRoom", apart := false, narrowed := true }
def PathRoomUptoSaid : Prop := pathRoomUptoRow.holds Try.pinned (OpenSpec.upto pathRoomSpec)

/-- 'binnaclelaw23.PathTwo', WHERE WHAT IT READS IS OF BULK AT MOST 1048576: true; the input reads as it did. -/
def pathTwoUptoRow : OpenClaim := { program := "ytlollnhoghledaa", sum := "ca4b3c5940bd8687778e0db5468d90292123de16c9e305104b35233740c79f87", func := "binnacle/binnaclelaw23.PathTwo", spec := "pathTwo", apart := false, narrowed := true }
def PathTwoUptoSaid : Prop := pathTwoUptoRow.holds Try.pinned (OpenSpec.upto pathTwoSpec)

/-- 'binnaclelaw23.PathPlays', WHERE WHAT IT READS IS OF BULK AT MOST 1048576: true; the input reads as it did. -/
def pathPlaysUptoRow : OpenClaim := { program := "ytlollnhoghledaa", sum := "ca4b3c5940bd8687778e0db5468d90292123de16c9e305104b35233740c79f87", func := "binnacle/binnaclelaw23.PathPlays", spec := "pathPlays", apart := false, narrowed := true }
def PathPlaysUptoSaid : Prop := pathPlaysUptoRow.holds Try.pinned (OpenSpec.upto pathPlaysSpec)

/-- 'binnaclelaw23.PathNone', WHERE WHAT IT READS IS OF BULK AT MOST 1048576: true; the input reads as it did. -/
def pathNoneUptoRow : OpenClaim := { program := "ytlollnhoghledaa", sum := "ca4b3c5940bd8687778e0db5468d90292123de16c9e305104b35233740c79f87", func := "binnacle/binnaclelaw23.PathNone", spec := "pathNone", apart := false, narrowed := true }
def PathNoneUptoSaid : Prop := pathNoneUptoRow.holds Try.pinned (OpenSpec.upto pathNoneSpec)

end Rows
end Go.Proofs.Ytlollnhoghledaa
