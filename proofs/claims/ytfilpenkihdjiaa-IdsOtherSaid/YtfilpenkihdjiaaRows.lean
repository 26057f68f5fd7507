/-
  No cell of these rows narrows 'for every input' (looked for: loops, veiled, ifaces, maps, wideKeys, modest, calm, conditions, laid).
  DERIVED. THE GIVEN ROWS OF THIS SEAT. 4 by the template 'for every input the law returns true; each argument reads behind the call as it read before'; 0 by the template 'total and deterministic' (their statements: YtfilpenkihdjiaaTotals.lean).
  GIVEN WITH THE SEED: the statements are not yours to turn. If you find one false, say at which input.
  Laid BY PROGRAM, IN A SANDBOX (cutbox-rows.mjs): the forced cells as the released guide's own fill.sh prints them over the translation 6dbb95e4dfac42a0… (all of the seat's roots in one cut). By AI agents, Wed Nov 11 2026. No macro, syntax, notation, axiom, sorry.
-/
import Derived.Test.YtfilpenkihdjiaaChecked
import GoSem.Claim
import GoSem.ClaimJoined
import GoSem.ClaimMapViews
import Derived.JoinedTies
import Derived.KernelRfl
namespace Go.Proofs.Ytfilpenkihdjiaa
/- THE CELL 'sum', in the pinned program and in every row, IS THE sha256 OF THE DUMP (.gsa) THAT YtfilpenkihdjiaaProg.lean LOADS. Nothing in Lean hashes anything: it is a label: what it is worth is what the hold of that sum in a sandbox is worth. -/
noncomputable def Try.pinned : Pinned := { name := "ytfilpenkihdjiaa", sum := "6dbb95e4dfac42a0e1aa2e0a79c7ba8c12c30ce58aadeb2ca62899e8a2fa0ec8", checked := Try.checked }
namespace Rows
def none {H : Type} : Left H := { results := [], args := [] }

/-- 'binnaclelaw22.IdsOther': WHATEVER THE INPUT: true; the input reads as it did. -/
def idsOtherSpec : ChangeSpec := { name := "idsOther", fn := fun _ => fun
  | [d1, d2, d3] => { results := [.lit (.bool true)], args := [d1, d2, d3] }
  | _ => none }
def idsOtherRow : OpenClaim := { program := "ytfilpenkihdjiaa", sum := "6dbb95e4dfac42a0e1aa2e0a79c7ba8c12c30ce58aadeb2ca62899e8a2fa0ec8", func := "binnacle/binnaclelaw22.IdsOther", spec := "idsOther", inPlace := ["slices.overlaps[binnacle/ids.Entry]"], unfollowed := true, recurses := true, apart := false }
def IdsOtherSaid : Prop := idsOtherRow.holds Try.pinned (OpenSpec.ofChange idsOtherSpec)

/-- ITS FALSE NEIGHBOUR: 'it returns false'. Refute it at one input. -/
def idsOtherWrong : ChangeSpec := { name := "idsOther", fn := fun _ => fun
  | [d1, d2, d3] => { results := [.lit (.bool false)], args := [d1, d2, d3] }
  | _ => none }
def IdsOtherWrongFalsely : Prop := idsOtherRow.holds Try.pinned (OpenSpec.ofChange idsOtherWrong)

/-- 'binnaclelaw22.IdsOwn': WHATEVER THE INPUT: true; the input reads as it did. -/
def idsOwnSpec : ChangeSpec := { name := "idsOwn", fn := fun _ => fun
  | [d1, d2, d3] => { results := [.lit (.bool true)], args := [d1, d2, d3] }
  | _ => none }
def idsOwnRow : OpenClaim := { program := "ytfilpenkihdjiaa", sum := "6dbb95e4dfac42a0e1aa2e0a79c7ba8c12c30ce58aadeb2ca62899e8a2fa0ec8", func := "binnacle/binnaclelaw22.IdsOwn", spec := "idsOwn", inPlace := ["slices.overlaps[binnacle/ids.Entry]"], unfollowed := true, recurses := true, apart := false }
def IdsOwnSaid : Prop := idsOwnRow.holds Try.pinned (OpenSpec.ofChange idsOwnSpec)

/-- ITS FALSE NEIGHBOUR: 'it returns false'. Refute it at one input. -/
def idsOwnWrong : ChangeSpec := { name := "idsOwn", fn := fun _ => fun
  | [d1, d2, d3] => { results := [.lit (.bool false)], args := [d1, d2, d3] }
  | _ => none }
def IdsOwnWrongFalsely : Prop := idsOwnRow.holds Try.pinned (OpenSpec.ofChange idsOwnWrong)

/-- 'binnaclelaw22.IdsMeet': WHATEVER THE INPUT: true; the input reads as it did. -/
def idsMeetSpec : ChangeSpec := { name := "idsMeet", fn := fun _ => fun
  | [d] => { results := [.lit (.bool true)], args := [d] }
  | _ => none }
def idsMeetRow : OpenClaim := { program := "ytfilpenkihdjiaa", sum := "6dbb95e4dfac42a0e1aa2e0a79c7ba8c12c30ce58aadeb2ca62899e8a2fa0ec8", func := "binnacle/binnaclelaw22.IdsMeet", spec := "idsMeet", inPlace := ["slices.overlaps[binnacle/ids.Entry]"], unfollowed := true, recurses := true, apart := false }
def IdsMeetSaid : Prop := idsMeetRow.holds Try.pinned (OpenSpec.ofChange idsMeetSpec)

/-- ITS FALSE NEIGHBOUR: 'it returns false'. Refute it at one input. -/
def idsMeetWrong : ChangeSpec := { name := "idsMeet", fn := fun _ => fun
  | [d] => { results := [.lit (.bool false)], args := [d] }
  | _ => none }
def IdsMeetWrongFalsely : Prop := idsMeetRow.holds Try.pinned (OpenSpec.ofChange idsMeetWrong)

/-- 'binnaclelaw22.IdsFirst': WHATEVER THE INPUT: true; the input reads as it did. -/
def idsFirstSpec : ChangeSpec := { name := "idsFirst", fn := fun _ => fun
  | [d1, d2, d3, d4] => { results := [.lit (.bool true)], args := [d1, d2, d3, d4] }
  | _ => none }
def idsFirstRow : OpenClaim := { program := "ytfilpenkihdjiaa", sum := "6dbb95e4dfac42a0e1aa2e0a79c7ba8c12c30ce58aadeb2ca62899e8a2fa0ec8", func := "binnacle/binnaclelaw22.IdsFirst", spec := "idsFirst", inPlace := ["slices.overlaps[binnacle/ids.Entry]"], unfollowed := true, recurses := true, apart := false }
def IdsFirstSaid : Prop := idsFirstRow.holds Try.pinned (OpenSpec.ofChange idsFirstSpec)

/-- ITS FALSE NEIGHBOUR: 'it returns false'. Refute it at one input. -/
def idsFirstWrong : ChangeSpec := { name := "idsFirst", fn := fun _ => fun
  | [d1, d2, d3, d4] => { results := [.lit (.bool false)], args := [d1, d2, d3, d4] }
  | _ => none }
def IdsFirstWrongFalsely : Prop := idsFirstRow.holds Try.pinned (OpenSpec.ofChange idsFirstWrong)

/- THE SECOND FORM. 'bulk': how many values and letters a reading holds, each counted each time it is reached (what is shared counts as often as it is met; a slice's spare places count too). A statement '..UptoSaid' is the law's where the arguments, and the package variables that the reading takes, are together of bulk at most 1048576: NARROWER than '..Said'. Prove '..Said' where nothing that the law and all that it calls make is longer than what came in: it says more and counts as full. Else prove '..UptoSaid'. A law counts once. -/
mutual
def uptoBulk {H : Type} : DataW H → Nat
  | .lit (.string bytes) => bytes.length + 1
  | .lit _ => 1
  | .nil => 1
  | .ptr d => uptoBulk d + 1
  | .slice elems spare => uptoBulkAll elems + uptoBulkAll spare + 1
  | .agg parts => uptoBulkAll parts + 1
  | .iface _ d => uptoBulk d + 1
  | .map entries => uptoBulkEntries entries + 1
  | .held _ => 1
def uptoBulkAll {H : Type} : List (DataW H) → Nat
  | [] => 0
  | d :: r => uptoBulk d + uptoBulkAll r
def uptoBulkEntries {H : Type} : List (Lit × DataW H) → Nat
  | [] => 0
  | x :: r => uptoBulkEntry x + uptoBulkEntries r
def uptoBulkEntry {H : Type} : Lit × DataW H → Nat
  | (.string bytes, d) => bytes.length + uptoBulk d + 1
  | (_, d) => uptoBulk d + 1
 end
def uptoSmall : (H : Type) → List (DataW H) → Bool := fun _ ds => decide (uptoBulkAll ds ≤ 1048576)
def OpenSpec.upto (s : _root_.Go.ChangeSpec) : _root_.Go.OpenSpec := { _root_.Go.OpenSpec.ofChange s with cond := some uptoSmall }

/-- 'binnaclelaw22.IdsOther', WHERE WHAT IT READS IS OF BULK AT MOST 1048576: true; the input reads as it did. -/
def idsOtherUptoRow : OpenClaim := { program := "ytfilpenkihdjiaa", sum := "6dbb95e4dfac42a0e1aa2e0a79c7ba8c12c30ce58aadeb2ca62899e8a2fa0ec8", func := "binnacle/binnaclelaw22.IdsOther", spec := "idsOther", inPlace := ["slices.overlaps[binnacle/ids.Entry]"], unfollowed := true, recurses := true, apart := false, narrowed := true }
def IdsOtherUptoSaid : Prop := idsOtherUptoRow.holds Try.pinned (OpenSpec.upto idsOtherSpec)

/-- 'binnaclelaw22.IdsOwn', WHERE WHAT IT READS IS OF BULK AT MOST 1048576: true; the input reads as it did. -/
def idsOwnUptoRow : OpenClaim := { program := "ytfilpenkihdjiaa", sum := "6dbb95e4dfac42a0e1aa2e0a79c7ba8c12c30ce58aadeb2ca62899e8a2fa0ec8", func := "binnacle/binnaclelaw22.IdsOwn", spec := "idsOwn", inPlace := ["slices.overlaps[binnacle/ids.Entry]"], unfollowed := true, recurses := true, apart := false, narrowed := true }
def IdsOwnUptoSaid : Prop := idsOwnUptoRow.holds Try.pinned (OpenSpec.upto idsOwnSpec)

/-- 'binnaclelaw22.IdsMeet', WHERE WHAT IT READS IS OF BULK AT MOST 1048576: true; the input reads as it did. -/
def idsMeetUptoRow : OpenClaim := { program := "ytfilpenkihdjiaa", sum := "6dbb95e4dfac42a0e1aa2e0a79c7ba8c12c30ce58aadeb2ca62899e8a2fa0ec8", func := "binnacle/binnaclelaw22.IdsMeet", spec := "idsMeet", inPlace := ["slices.overlaps[binnacle/ids.Entry]"], unfollowed := true, recurses := true, apart := false, narrowed := true }
def IdsMeetUptoSaid : Prop := idsMeetUptoRow.holds Try.pinned (OpenSpec.upto idsMeetSpec)

/-- 'binnaclelaw22.IdsFirst', WHERE WHAT IT READS IS OF BULK AT MOST 1048576: true; the input reads as it did. -/
def idsFirstUptoRow : OpenClaim := { program := "ytfilpenkihdjiaa", sum := "6dbb95e4dfac42a0e1aa2e0a79c7ba8c12c30ce58aadeb2ca62899e8a2fa0ec8", func := "binnacle/binnaclelaw22.IdsFirst", spec := "idsFirst", inPlace := ["slices.overlaps[binnacle/ids.Entry]"], unfollowed := true, recurses := true, apart := false, narrowed := true }
def IdsFirstUptoSaid : Prop := idsFirstUptoRow.holds Try.pinned (OpenSpec.upto idsFirstSpec)

end Rows
end Go.Proofs.Ytfilpenkihdjiaa
