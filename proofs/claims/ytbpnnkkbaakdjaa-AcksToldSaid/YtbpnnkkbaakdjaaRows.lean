/-
  No cell of these rows narrows 'for every input' (looked for: loops, veiled, ifaces, maps, wideKeys, modest, calm, conditions, laid).
  DERIVED. THE GIVEN ROWS OF THIS SEAT. 12 by the template 'for every input the law returns true; each argument reads behind the call as it read before'; 0 by the template 'total and deterministic' (their statements: YtbpnnkkbaakdjaaTotals.lean).
  GIVEN WITH THE SEED: the statements are not yours to turn. If you find one false, say at which input.
  Laid BY PROGRAM, IN A SANDBOX (cutbox-rows.mjs): the forced cells as the released guide's own fill.sh prints them over the translation 34d1f8dd69555c2e… (all of the seat's roots in one cut). By AI agents, Wed Nov 11 2026. No macro, syntax, notation, axiom, sorry.
-/
import Derived.Test.YtbpnnkkbaakdjaaChecked
import GoSem.Claim
import GoSem.ClaimJoined
import GoSem.ClaimMapViews
import Derived.JoinedTies
import Derived.KernelRfl
namespace Go.Proofs.Ytbpnnkkbaakdjaa
/- THE CELL 'sum', in the pinned program and in every row, IS THE sha256 OF THE DUMP (.gsa) THAT YtbpnnkkbaakdjaaProg.lean LOADS. Nothing in Lean hashes anything: it is a label: what it is worth is what the hold of that sum in a sandbox is worth. -/
noncomputable def Try.pinned : Pinned := { name := "ytbpnnkkbaakdjaa", sum := "34d1f8dd69555c2e82df5c1431a2713656d0bdd32015372f3e65ec92cfa9c392", checked := Try.checked }
namespace Rows
def none {H : Type} : Left H := { results := [], args := [] }

/-- 'binnaclelaw07.SpanParts': WHATEVER THE INPUT: true; the input reads as it did. -/
def spanPartsSpec : ChangeSpec := { name := "spanParts", fn := fun _ => fun
  | [d1, d2] => { results := [.lit (.bool true)], args := [d1, d2] }
  | _ => none }
def spanPartsRow : OpenClaim := { program := "ytbpnnkkbaakdjaa", sum := "34d1f8dd69555c2e82df5c1431a2713656d0bdd32015372f3e65ec92cfa9c392", func := "binnacle/binnaclelaw07.SpanParts", spec := "spanParts", inPlace := ["slices.overlaps[binnacle/span.Range]"], unfollowed := true, recurses := true, apart := false }
def SpanPartsSaid : Prop := spanPartsRow.holds Try.pinned (OpenSpec.ofChange spanPartsSpec)

/-- ITS FALSE NEIGHBOUR: 'it returns false'. Refute it at one input. -/
def spanPartsWrong : ChangeSpec := { name := "spanParts", fn := fun _ => fun
  | [d1, d2] => { results := [.lit (.bool false)], args := [d1, d2] }
  | _ => none }
def SpanPartsWrongFalsely : Prop := spanPartsRow.holds Try.pinned (OpenSpec.ofChange spanPartsWrong)

/-- 'binnaclelaw07.SpanAsks': WHATEVER THE INPUT: true; the input reads as it did. -/
def spanAsksSpec : ChangeSpec := { name := "spanAsks", fn := fun _ => fun
  | [d1, d2] => { results := [.lit (.bool true)], args := [d1, d2] }
  | _ => none }
def spanAsksRow : OpenClaim := { program := "ytbpnnkkbaakdjaa", sum := "34d1f8dd69555c2e82df5c1431a2713656d0bdd32015372f3e65ec92cfa9c392", func := "binnacle/binnaclelaw07.SpanAsks", spec := "spanAsks", inPlace := ["slices.overlaps[binnacle/span.Range]"], unfollowed := true, recurses := true, apart := false }
def SpanAsksSaid : Prop := spanAsksRow.holds Try.pinned (OpenSpec.ofChange spanAsksSpec)

/-- ITS FALSE NEIGHBOUR: 'it returns false'. Refute it at one input. -/
def spanAsksWrong : ChangeSpec := { name := "spanAsks", fn := fun _ => fun
  | [d1, d2] => { results := [.lit (.bool false)], args := [d1, d2] }
  | _ => none }
def SpanAsksWrongFalsely : Prop := spanAsksRow.holds Try.pinned (OpenSpec.ofChange spanAsksWrong)

/-- 'binnaclelaw07.SpanPlays': WHATEVER THE INPUT: true; the input reads as it did. -/
def spanPlaysSpec : ChangeSpec := { name := "spanPlays", fn := fun _ => fun
  | [d1, d2, d3, d4] => { results := [.lit (.bool true)], args := [d1, d2, d3, d4] }
  | _ => none }
def spanPlaysRow : OpenClaim := { program := "ytbpnnkkbaakdjaa", sum := "34d1f8dd69555c2e82df5c1431a2713656d0bdd32015372f3e65ec92cfa9c392", func := "binnacle/binnaclelaw07.SpanPlays", spec := "spanPlays", inPlace := ["slices.overlaps[binnacle/span.Range]"], unfollowed := true, recurses := true, apart := false }
def SpanPlaysSaid : Prop := spanPlaysRow.holds Try.pinned (OpenSpec.ofChange spanPlaysSpec)

/-- ITS FALSE NEIGHBOUR: 'it returns false'. Refute it at one input. -/
def spanPlaysWrong : ChangeSpec := { name := "spanPlays", fn := fun _ => fun
  | [d1, d2, d3, d4] => { results := [.lit (.bool false)], args := [d1, d2, d3, d4] }
  | _ => none }
def SpanPlaysWrongFalsely : Prop := spanPlaysRow.holds Try.pinned (OpenSpec.ofChange spanPlaysWrong)

/-- 'binnaclelaw07.SpanNone': WHATEVER THE INPUT: true; the input reads as it did. -/
def spanNoneSpec : ChangeSpec := { name := "spanNone", fn := fun _ => fun
  | [d1, d2] => { results := [.lit (.bool true)], args := [d1, d2] }
  | _ => none }
def spanNoneRow : OpenClaim := { program := "ytbpnnkkbaakdjaa", sum := "34d1f8dd69555c2e82df5c1431a2713656d0bdd32015372f3e65ec92cfa9c392", func := "binnacle/binnaclelaw07.SpanNone", spec := "spanNone", inPlace := ["slices.overlaps[binnacle/span.Range]"], unfollowed := true, recurses := true, apart := false }
def SpanNoneSaid : Prop := spanNoneRow.holds Try.pinned (OpenSpec.ofChange spanNoneSpec)

/-- ITS FALSE NEIGHBOUR: 'it returns false'. Refute it at one input. -/
def spanNoneWrong : ChangeSpec := { name := "spanNone", fn := fun _ => fun
  | [d1, d2] => { results := [.lit (.bool false)], args := [d1, d2] }
  | _ => none }
def SpanNoneWrongFalsely : Prop := spanNoneRow.holds Try.pinned (OpenSpec.ofChange spanNoneWrong)

/-- 'binnaclelaw16.OutbufOrder': WHATEVER THE INPUT: true; the input reads as it did. -/
def outbufOrderSpec : ChangeSpec := { name := "outbufOrder", fn := fun _ => fun
  | [d1, d2, d3] => { results := [.lit (.bool true)], args := [d1, d2, d3] }
  | _ => none }
def outbufOrderRow : OpenClaim := { program := "ytbpnnkkbaakdjaa", sum := "34d1f8dd69555c2e82df5c1431a2713656d0bdd32015372f3e65ec92cfa9c392", func := "binnacle/binnaclelaw16.OutbufOrder", spec := "outbufOrder", inPlace := ["slices.overlaps[binnacle/span.Range]"], unfollowed := true, recurses := true, apart := false }
def OutbufOrderSaid : Prop := outbufOrderRow.holds Try.pinned (OpenSpec.ofChange outbufOrderSpec)

/-- ITS FALSE NEIGHBOUR: 'it returns false'. Refute it at one input. -/
def outbufOrderWrong : ChangeSpec := { name := "outbufOrder", fn := fun _ => fun
  | [d1, d2, d3] => { results := [.lit (.bool false)], args := [d1, d2, d3] }
  | _ => none }
def OutbufOrderWrongFalsely : Prop := outbufOrderRow.holds Try.pinned (OpenSpec.ofChange outbufOrderWrong)

/-- 'binnaclelaw15.InbufWhole': WHATEVER THE INPUT: true; the input reads as it did. -/
def inbufWholeSpec : ChangeSpec := { name := "inbufWhole", fn := fun _ => fun
  | [d1, d2, d3, d4] => { results := [.lit (.bool true)], args := [d1, d2, d3, d4] }
  | _ => none }
def inbufWholeRow : OpenClaim := { program := "ytbpnnkkbaakdjaa", sum := "34d1f8dd69555c2e82df5c1431a2713656d0bdd32015372f3e65ec92cfa9c392", func := "binnacle/binnaclelaw15.InbufWhole", spec := "inbufWhole", inPlace := ["slices.overlaps[binnacle/span.Range]"], unfollowed := true, recurses := true, apart := false }
def InbufWholeSaid : Prop := inbufWholeRow.holds Try.pinned (OpenSpec.ofChange inbufWholeSpec)

/-- ITS FALSE NEIGHBOUR: 'it returns false'. Refute it at one input. -/
def inbufWholeWrong : ChangeSpec := { name := "inbufWhole", fn := fun _ => fun
  | [d1, d2, d3, d4] => { results := [.lit (.bool false)], args := [d1, d2, d3, d4] }
  | _ => none }
def InbufWholeWrongFalsely : Prop := inbufWholeRow.holds Try.pinned (OpenSpec.ofChange inbufWholeWrong)

/-- 'binnaclelaw14.AcksForgets': WHATEVER THE INPUT: true; the input reads as it did. -/
def acksForgetsSpec : ChangeSpec := { name := "acksForgets", fn := fun _ => fun
  | [d1, d2] => { results := [.lit (.bool true)], args := [d1, d2] }
  | _ => none }
def acksForgetsRow : OpenClaim := { program := "ytbpnnkkbaakdjaa", sum := "34d1f8dd69555c2e82df5c1431a2713656d0bdd32015372f3e65ec92cfa9c392", func := "binnacle/binnaclelaw14.AcksForgets", spec := "acksForgets", inPlace := ["slices.overlaps[binnacle/span.Range]"], unfollowed := true, recurses := true, apart := false }
def AcksForgetsSaid : Prop := acksForgetsRow.holds Try.pinned (OpenSpec.ofChange acksForgetsSpec)

/-- ITS FALSE NEIGHBOUR: 'it returns false'. Refute it at one input. -/
def acksForgetsWrong : ChangeSpec := { name := "acksForgets", fn := fun _ => fun
  | [d1, d2] => { results := [.lit (.bool false)], args := [d1, d2] }
  | _ => none }
def AcksForgetsWrongFalsely : Prop := acksForgetsRow.holds Try.pinned (OpenSpec.ofChange acksForgetsWrong)

/-- 'binnaclelaw15.InbufEnds': WHATEVER THE INPUT: true; the input reads as it did. -/
def inbufEndsSpec : ChangeSpec := { name := "inbufEnds", fn := fun _ => fun
  | [d1, d2, d3] => { results := [.lit (.bool true)], args := [d1, d2, d3] }
  | _ => none }
def inbufEndsRow : OpenClaim := { program := "ytbpnnkkbaakdjaa", sum := "34d1f8dd69555c2e82df5c1431a2713656d0bdd32015372f3e65ec92cfa9c392", func := "binnacle/binnaclelaw15.InbufEnds", spec := "inbufEnds", inPlace := ["slices.overlaps[binnacle/span.Range]"], unfollowed := true, recurses := true, apart := false }
def InbufEndsSaid : Prop := inbufEndsRow.holds Try.pinned (OpenSpec.ofChange inbufEndsSpec)

/-- ITS FALSE NEIGHBOUR: 'it returns false'. Refute it at one input. -/
def inbufEndsWrong : ChangeSpec := { name := "inbufEnds", fn := fun _ => fun
  | [d1, d2, d3] => { results := [.lit (.bool false)], args := [d1, d2, d3] }
  | _ => none }
def InbufEndsWrongFalsely : Prop := inbufEndsRow.holds Try.pinned (OpenSpec.ofChange inbufEndsWrong)

/-- 'binnaclelaw15.InbufMany': WHATEVER THE INPUT: true; the input reads as it did. -/
def inbufManySpec : ChangeSpec := { name := "inbufMany", fn := fun _ => fun
  | [d1, d2] => { results := [.lit (.bool true)], args := [d1, d2] }
  | _ => none }
def inbufManyRow : OpenClaim := { program := "ytbpnnkkbaakdjaa", sum := "34d1f8dd69555c2e82df5c1431a2713656d0bdd32015372f3e65ec92cfa9c392", func := "binnacle/binnaclelaw15.InbufMany", spec := "inbufMany", inPlace := ["slices.overlaps[binnacle/span.Range]"], unfollowed := true, recurses := true, apart := false }
def InbufManySaid : Prop := inbufManyRow.holds Try.pinned (OpenSpec.ofChange inbufManySpec)

/-- ITS FALSE NEIGHBOUR: 'it returns false'. Refute it at one input. -/
def inbufManyWrong : ChangeSpec := { name := "inbufMany", fn := fun _ => fun
  | [d1, d2] => { results := [.lit (.bool false)], args := [d1, d2] }
  | _ => none }
def InbufManyWrongFalsely : Prop := inbufManyRow.holds Try.pinned (OpenSpec.ofChange inbufManyWrong)

/-- 'binnaclelaw16.OutbufWhole': WHATEVER THE INPUT: true; the input reads as it did. -/
def outbufWholeSpec : ChangeSpec := { name := "outbufWhole", fn := fun _ => fun
  | [d1, d2, d3, d4] => { results := [.lit (.bool true)], args := [d1, d2, d3, d4] }
  | _ => none }
def outbufWholeRow : OpenClaim := { program := "ytbpnnkkbaakdjaa", sum := "34d1f8dd69555c2e82df5c1431a2713656d0bdd32015372f3e65ec92cfa9c392", func := "binnacle/binnaclelaw16.OutbufWhole", spec := "outbufWhole", inPlace := ["slices.overlaps[binnacle/span.Range]"], unfollowed := true, recurses := true, apart := false }
def OutbufWholeSaid : Prop := outbufWholeRow.holds Try.pinned (OpenSpec.ofChange outbufWholeSpec)

/-- ITS FALSE NEIGHBOUR: 'it returns false'. Refute it at one input. -/
def outbufWholeWrong : ChangeSpec := { name := "outbufWhole", fn := fun _ => fun
  | [d1, d2, d3, d4] => { results := [.lit (.bool false)], args := [d1, d2, d3, d4] }
  | _ => none }
def OutbufWholeWrongFalsely : Prop := outbufWholeRow.holds Try.pinned (OpenSpec.ofChange outbufWholeWrong)

/-- 'binnaclelaw16.OutbufPlays': WHATEVER THE INPUT: true; the input reads as it did. -/
def outbufPlaysSpec : ChangeSpec := { name := "outbufPlays", fn := fun _ => fun
  | [d] => { results := [.lit (.bool true)], args := [d] }
  | _ => none }
def outbufPlaysRow : OpenClaim := { program := "ytbpnnkkbaakdjaa", sum := "34d1f8dd69555c2e82df5c1431a2713656d0bdd32015372f3e65ec92cfa9c392", func := "binnacle/binnaclelaw16.OutbufPlays", spec := "outbufPlays", inPlace := ["slices.overlaps[binnacle/span.Range]"], unfollowed := true, recurses := true, apart := false }
def OutbufPlaysSaid : Prop := outbufPlaysRow.holds Try.pinned (OpenSpec.ofChange outbufPlaysSpec)

/-- ITS FALSE NEIGHBOUR: 'it returns false'. Refute it at one input. -/
def outbufPlaysWrong : ChangeSpec := { name := "outbufPlays", fn := fun _ => fun
  | [d] => { results := [.lit (.bool false)], args := [d] }
  | _ => none }
def OutbufPlaysWrongFalsely : Prop := outbufPlaysRow.holds Try.pinned (OpenSpec.ofChange outbufPlaysWrong)

/-- 'binnaclelaw14.AcksTold': WHATEVER THE INPUT: true; the input reads as it did. -/
def acksToldSpec : ChangeSpec := { name := "acksTold", fn := fun _ => fun
  | [d1, d2] => { results := [.lit (.bool true)], args := [d1, d2] }
  | _ => none }
def acksToldRow : OpenClaim := { program := "ytbpnnkkbaakdjaa", sum := "34d1f8dd69555c2e82df5c1431a2713656d0bdd32015372f3e65ec92cfa9c392", func := "binnacle/binnaclelaw14.AcksTold", spec := "acksTold", inPlace := ["slices.overlaps[binnacle/span.Range]"], unfollowed := true, recurses := true, apart := false }
def AcksToldSaid : Prop := acksToldRow.holds Try.pinned (OpenSpec.ofChange acksToldSpec)

/-- ITS FALSE NEIGHBOUR: 'it returns false'. Refute it at one input. -/
def acksToldWrong : ChangeSpec := { name := "acksTold", fn := fun _ => fun
  | [d1, d2] => { results := [.lit (.bool false)], args := [d1, d2] }
  | _ => none }
def AcksToldWrongFalsely : Prop := acksToldRow.holds Try.pinned (OpenSpec.ofChange acksToldWrong)

/- THE SECOND FORM. 'bulk': how many values and letters a reading holds, each counted each time it is reached (what is shared counts as often as it is met; a slice's spare places count too). A statement '..UptoSaid' is the law's where the arguments, and the package variables that the reading takes, are together of bulk at most 1048576: NARROWER than '..Said'. Prove '..Said' where nothing that the law and all that it calls make is longer than what came in: it says more and counts as full. Else prove '..UptoSaid'. A law counts once. -/
mutual
def uptoBulk {H : Type} : DataW H → Nat
  | .lit (.string bytes) => bytes.length + 1
  | .lit _ => 1
  | .nil => 1
  | .ptr d => uptoBulk d + 1
  | .slice elems spare => uptoBulkAll elems + uptoBulkAll spare + 1
  | .agg parts => uptoBulkAll parts + 1
  | .iface _ d => uptoBulk d + 1
  | .map entries => uptoBulkEntries entries + 1
  | .held _ => 1
def uptoBulkAll {H : Type} : List (DataW H) → Nat
  | [] => 0
  | d :: r => uptoBulk d + uptoBulkAll r
def uptoBulkEntries {H : Type} : List (Lit × DataW H) → Nat
  | [] => 0
  | x :: r => uptoBulkEntry x + uptoBulkEntries r
def uptoBulkEntry {H : Type} : Lit × DataW H → Nat
  | (.string bytes, d) => bytes.length + uptoBulk d + 1
  | (_, d) => uptoBulk d + 1
 end
def uptoSmall : (H : Type) → List (DataW H) → Bool := fun _ ds => decide (uptoBulkAll ds ≤ 1048576)
def OpenSpec.upto (s : _root_.Go.ChangeSpec) : _root_.Go.OpenSpec := { _root_.Go.OpenSpec.ofChange s with cond := some uptoSmall }

/-- 'binnaclelaw07.SpanParts', WHERE WHAT IT READS IS OF BULK AT MOST 1048576: true; the input reads as it did. -/
def spanPartsUptoRow : OpenClaim := { program := "ytbpnnkkbaakdjaa", sum := "34d1f8dd69555c2e82df5c1431a2713656d0bdd32015372f3e65ec92cfa9c392", func := "binnacle/binnaclelaw07.SpanParts", spec := "spanParts", inPlace := ["slices.overlaps[binnacle/span.Range]"], unfollowed := true, recurses := true, apart := false, narrowed := true }
def SpanPartsUptoSaid : Prop := spanPartsUptoRow.holds Try.pinned (OpenSpec.upto spanPartsSpec)

/-- 'binnaclelaw07.SpanAsks', WHERE WHAT IT READS IS OF BULK AT MOST 1048576: true; the input reads as it did. -/
def spanAsksUptoRow : OpenClaim := { program := "ytbpnnkkbaakdjaa", sum := "34d1f8dd69555c2e82df5c1431a2713656d0bdd32015372f3e65ec92cfa9c392", func := "binnacle/binnaclelaw07.SpanAsks", spec := "spanAsks", inPlace := ["slices.overlaps[binnacle/span.Range]"], unfollowed := true, recurses := true, apart := false, narrowed := true }
def SpanAsksUptoSaid : Prop := spanAsksUptoRow.holds Try.pinned (OpenSpec.upto spanAsksSpec)

/-- 'binnaclelaw07.SpanPlays', WHERE WHAT IT READS IS OF BULK AT MOST 1048576: true; the input reads as it did. -/
def spanPlaysUptoRow : OpenClaim := { program := "ytbpnnkkbaakdjaa", sum := "34d1f8dd69555c2e82df5c1431a2713656d0bdd32015372f3e65ec92cfa9c392", func := "binnacle/binnaclelaw07.SpanPlays", spec := "spanPlays", inPlace := ["slices.overlaps[binnacle/span.Range]"], unfollowed := true, recurses := true, apart := false, narrowed := true }
def SpanPlaysUptoSaid : Prop := spanPlaysUptoRow.holds Try.pinned (OpenSpec.upto spanPlaysSpec)

/-- 'binnaclelaw07.SpanNone', WHERE WHAT IT READS IS OF BULK AT MOST 1048576: true; the input reads as it did. -/
def spanNoneUptoRow : OpenClaim := { program := "ytbpnnkkbaakdjaa", sum := "34d1f8dd69555c2e82df5c1431a2713656d0bdd32015372f3e65ec92cfa9c392", func := "binnacle/binnaclelaw07.SpanNone", spec := "spanNone", inPlace := ["slices.overlaps[binnacle/span.Range]"], unfollowed := true, recurses := true, apart := false, narrowed := true }
def SpanNoneUptoSaid : Prop := spanNoneUptoRow.holds Try.pinned (OpenSpec.upto spanNoneSpec)

/-- 'binnaclelaw16.OutbufOrder', WHERE WHAT IT READS IS OF BULK AT MOST 1048576: true; the input reads as it did. -/
def outbufOrderUptoRow : OpenClaim := { program := "ytbpnnkkbaakdjaa", sum := "34d1f8dd69555c2e82df5c1431a2713656d0bdd32015372f3e65ec92cfa9c392", func := "binnacle/binnaclelaw16.OutbufOrder", spec := "outbufOrder", inPlace := ["slices.overlaps[binnacle/span.Range]"], unfollowed := true, recurses := true, apart := false, narrowed := true }
def OutbufOrderUptoSaid : Prop := outbufOrderUptoRow.holds Try.pinned (OpenSpec.upto outbufOrderSpec)

/-- 'binnaclelaw15.InbufWhole', WHERE WHAT IT READS IS OF BULK AT MOST 1048576: true; the input reads as it did. -/
def inbufWholeUptoRow : OpenClaim := { program := "ytbpnnkkbaakdjaa", sum := "34d1f8dd69555c2e82df5c1431a2713656d0bdd32015372f3e65ec92cfa9c392", func := "binnacle/binnaclelaw15.InbufWhole", spec := "inbufWhole", inPlace := ["slices.overlaps[binnacle/span.Range]"], unfollowed := true, recurses := true, apart := false, narrowed := true }
def InbufWholeUptoSaid : Prop := inbufWholeUptoRow.holds Try.pinned (OpenSpec.upto inbufWholeSpec)

/-- 'binnaclelaw14.AcksForgets', WHERE WHAT IT READS IS OF BULK AT MOST 1048576: true; the input reads as it did. -/
def acksForgetsUptoRow : OpenClaim := { program := "ytbpnnkkbaakdjaa", sum := "34d1f8dd69555c2e82df5c1431a2713656d0bdd32015372f3e65ec92cfa9c392", func := "binnacle/binnaclelaw14.AcksForgets", spec := "acksForgets", inPlace := ["slices.overlaps[binnacle/span.Range]"], unfollowed := true, recurses := true, apart := false, narrowed := true }
def AcksForgetsUptoSaid : Prop := acksForgetsUptoRow.holds Try.pinned (OpenSpec.upto acksForgetsSpec)

/-- 'binnaclelaw15.InbufEnds', WHERE WHAT IT READS IS OF BULK AT MOST 1048576: true; the input reads as it did. -/
def inbufEndsUptoRow : OpenClaim := { program := "ytbpnnkkbaakdjaa", sum := "34d1f8dd69555c2e82df5c1431a2713656d0bdd32015372f3e65ec92cfa9c392", func := "binnacle/binnaclelaw15.InbufEnds", spec := "inbufEnds", inPlace := ["slices.overlaps[binnacle/span.Range]"], unfollowed := true, recurses := true, apart := false, narrowed := true }
def InbufEndsUptoSaid : Prop := inbufEndsUptoRow.holds Try.pinned (OpenSpec.upto inbufEndsSpec)

/-- 'binnaclelaw15.InbufMany', WHERE WHAT IT READS IS OF BULK AT MOST 1048576: true; the input reads as it did. -/
def inbufManyUptoRow : OpenClaim := { program := "ytbpnnkkbaakdjaa", sum := "34d1f8dd69555c2e82df5c1431a2713656d0bdd32015372f3e65ec92cfa9c392", func := "binnacle/binnaclelaw15.InbufMany", spec := "inbufMany", inPlace := ["slices.overlaps[binnacle/span.Range]"], unfollowed := true, recurses := true, apart := false, narrowed := true }
def InbufManyUptoSaid : Prop := inbufManyUptoRow.holds Try.pinned (OpenSpec.upto inbufManySpec)

/-- 'binnaclelaw16.OutbufWhole', WHERE WHAT IT READS IS OF BULK AT MOST 1048576: true; the input reads as it did. -/
def outbufWholeUptoRow : OpenClaim := { program := "ytbpnnkkbaakdjaa", sum := "34d1f8dd69555c2e82df5c1431a2713656d0bdd32015372f3e65ec92cfa9c392", func := "binnacle/binnaclelaw16.OutbufWhole", spec := "outbufWhole", inPlace := ["slices.overlaps[binnacle/span.Range]"], unfollowed := true, recurses := true, apart := false, narrowed := true }
def OutbufWholeUptoSaid : Prop := outbufWholeUptoRow.holds Try.pinned (OpenSpec.upto outbufWholeSpec)

/-- 'binnaclelaw16.OutbufPlays', WHERE WHAT IT READS IS OF BULK AT MOST 1048576: true; the input reads as it did. -/
def outbufPlaysUptoRow : OpenClaim := { program := "ytbpnnkkbaakdjaa", sum := "34d1f8dd69555c2e82df5c1431a2713656d0bdd32015372f3e65ec92cfa9c392", func := "binnacle/binnaclelaw16.OutbufPlays", spec := "outbufPlays", inPlace := ["slices.overlaps[binnacle/span.Range]"], unfollowed := true, recurses := true, apart := false, narrowed := true }
def OutbufPlaysUptoSaid : Prop := outbufPlaysUptoRow.holds Try.pinned (OpenSpec.upto outbufPlaysSpec)

/-- 'binnaclelaw14.AcksTold', WHERE WHAT IT READS IS OF BULK AT MOST 1048576: true; the input reads as it did. -/
def acksToldUptoRow : OpenClaim := { program := "ytbpnnkkbaakdjaa", sum := "34d1f8dd69555c2e82df5c1431a2713656d0bdd32015372f3e65ec92cfa9c392", func := "binnacle/binnaclelaw14.AcksTold", spec := "acksTold", inPlace := ["slices.overlaps[binnacle/span.Range]"], unfollowed := true, recurses := true, apart := false, narrowed := true }
def AcksToldUptoSaid : Prop := acksToldUptoRow.holds Try.pinned (OpenSpec.upto acksToldSpec)

end Rows
end Go.Proofs.Ytbpnnkkbaakdjaa
