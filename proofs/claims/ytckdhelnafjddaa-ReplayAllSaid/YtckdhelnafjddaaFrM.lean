/- Frames, plainly: what a frame is, its bytes, how it is taken; what was written is taken as it was. Conditions: none; no program is spoken of. -/
import Derived.Test.YtckdhelnafjddaaVintP
namespace Go.Proofs.Ytckdhelnafjddaa
open Go Go.Sl Go.Proofs
set_option maxRecDepth 20000
set_option linter.unusedVariables false
set_option linter.unusedSimpArgs false

structure FrM where
  k : Int
  st : Int
  off : Int
  lim : Int
  cod : Int
  data : List UInt8
  fin : Bool
  rg : List Rg
  dl : Int
  e0 : Int
  e1 : Int
  e2 : Int
  sq : Int
  pr : Int
  id : List UInt8
  tok : List UInt8
  wd : List UInt8
def z16 : List UInt8 := [0, 0, 0, 0, 0, 0, 0, 0, 0, 0, 0, 0, 0, 0, 0, 0]
def z8 : List UInt8 := [0, 0, 0, 0, 0, 0, 0, 0]
def FrM.zero (k : Int) : FrM := ⟨k, 0, 0, 0, 0, [], false, [], 0, 0, 0, 0, 0, 0, [], z16, z8⟩
def inU (n : Int) : Prop := 0 ≤ n ∧ n ≤ 18446744073709551615
structure FrM.ok (f : FrM) : Prop where
  k : 0 ≤ f.k ∧ f.k ≤ 255
  st : inU f.st
  off : inU f.off
  lim : inU f.lim
  cod : inU f.cod
  rg : ∀ r ∈ f.rg, RgIn r
  dl : inU f.dl
  e0 : inU f.e0
  e1 : inU f.e1
  e2 : inU f.e2
  sq : inU f.sq
  pr : inU f.pr
  tok : f.tok.length = 16
  wd : f.wd.length = 8

/-! ### Written -/
abbrev Rs := List UInt8 × Int
def wGo (l : List UInt8) : List Int → Rs
  | [] => (l, 0)
  | n :: ns => if vlen n = 0 then (l, 2) else wGo (l ++ encV n (vlen n)) ns
def wI (s : Rs) (ns : List Int) : Rs := if s.2 ≠ 0 then s else wGo s.1 ns
def wB (s : Rs) (d : List UInt8) : Rs := if s.2 = 0 then (s.1 ++ d, s.2) else s
def wL (s : Rs) (d : List UInt8) : Rs := wB (wI s [(d.length : Int)]) d
/-- the lower ranges -/
def wRg (s : Rs) (p : Rg) : List Rg → Rs
  | [] => s
  | r :: l => wRg (wI s [p.a - r.b - 1, r.b - r.a - 1]) r l
def wAck (s : Rs) (f : FrM) : Rs := match f.rg.reverse with
  | [] => s
  | p :: l => wRg (wI s [p.b - 1, f.dl, ((f.rg.length : Int) - 1), p.b - p.a - 1]) p l
def kindOf (f : FrM) : Int := if f.k = 8 then (if f.fin = true then 15 else 14) else f.k
def wBody (s : Rs) (f : FrM) : Rs := match f.k.toNat with
  | 2 => wAck s f
  | 3 => wI (wAck s f) [f.e0, f.e1, f.e2]
  | 4 => wI s [f.st, f.cod, f.lim]
  | 5 => wI s [f.st, f.cod]
  | 6 => wL (wI s [f.off]) f.data
  | 7 => wL s f.data
  | 8 => wL (wI s [f.st, f.off]) f.data
  | 16 => wI s [f.lim]
  | 17 => wI s [f.st, f.lim]
  | 18 => wI s [f.lim]
  | 19 => wI s [f.lim]
  | 20 => wI s [f.lim]
  | 21 => wI s [f.st, f.lim]
  | 22 => wI s [f.lim]
  | 23 => wI s [f.lim]
  | 24 => wB (wB (wB (wI s [f.sq, f.pr]) [toB (f.id.length : Int)]) f.id) f.tok
  | 25 => wI s [f.sq]
  | 26 => wB s f.wd
  | 27 => wB s f.wd
  | 28 => wL (wI s [f.cod, f.lim]) f.data
  | 29 => wL (wI s [f.cod]) f.data
  | _ => s
def wAll (s : Rs) (f : FrM) : Rs := wBody (wI s [kindOf f]) f

/-! ### What may be written -/
structure RgUp (l : List Rg) : Prop where
  pos : 1 ≤ l.length
  len : l.length ≤ 32
  lt : ∀ i (h : i < l.length), l[i].a < l[i].b
  up : ∀ i (h : i + 1 < l.length), l[i].b < l[i + 1].a
structure Chk (f : FrM) : Prop where
  k : 0 ≤ f.k ∧ f.k ≤ 8 ∨ 16 ≤ f.k ∧ f.k ≤ 30
  ack : f.k = 2 ∨ f.k = 3 → RgUp f.rg
  str : f.k = 6 ∨ f.k = 8 → f.data.length ≤ 1200 ∧ f.off ≤ 4611686018427387903 - f.data.length
  tok : f.k = 7 → 1 ≤ f.data.length ∧ f.data.length ≤ 64
  lim : f.k = 18 ∨ f.k = 19 ∨ f.k = 22 ∨ f.k = 23 → f.lim ≤ 1152921504606846976
  id : f.k = 24 → 1 ≤ f.id.length ∧ f.id.length ≤ 20 ∧ f.pr ≤ f.sq
  cls : f.k = 28 ∨ f.k = 29 → f.data.length ≤ 64
def encF (f : FrM) : List UInt8 := (wAll ([], 0) f).1
def CanF (f : FrM) : Prop := Chk f ∧ (wAll ([], 0) f).2 = 0

/-! ### Taken -/
def Pr (α : Type) := Rs → α × Rs
def Pr.ret {α : Type} (a : α) : Pr α := fun s => (a, s)
def Pr.bind {α β : Type} (m : Pr α) (f : α → Pr β) : Pr β := fun s => f (m s).1 (m s).2
def pInt : Pr Int := fun s => ((nextM s.1 s.2).v, ((nextM s.1 s.2).l, (nextM s.1 s.2).e))
def pLeast : Pr Int := fun s => leastM s.1 s.2
def pCount (k : Int) : Pr Int := fun s => countM s.1 s.2 k
def pBytes (n : Int) : Pr (List UInt8) := fun s => bytesM s.1 s.2 n
def pLong (k : Int) : Pr (List UInt8) := fun s => longM s.1 s.2 k
def pByte : Pr Int := fun s => ((((bytesM s.1 s.2 1).1.headD 0).toNat : Int), (bytesM s.1 s.2 1).2)
def failM (k : Int) (s : Rs) : Rs := (if k = 0 ∨ s.2 ≠ 0 then s.1 else [], if k = 0 ∨ s.2 ≠ 0 then s.2 else k)
def pFail (k : Int) : Pr Unit := fun s => ((), failM k s)
/-- fails if so -/
def pIf (p : Prop) [Decidable p] (k : Int) : Pr Unit := fun s => ((), if p then failM k s else s)
def pLeft : Pr (List UInt8) := fun s => bytesM s.1 s.2 (s.1.length : Int)
def pad (n : Nat) (b : List UInt8) : List UInt8 := b.take n ++ List.replicate (n - b.length) 0

def pOne (top less : Int) (acc : List Rg) : Pr (Bool × List Rg) :=
  (pIf (top < less) 10).bind fun _ => fun s => if s.2 ≠ 0 then ((false, acc), s) else ((true, acc ++ [⟨top - less, top + 1⟩]), s)
def pMore : Nat → Int → Int → List Rg → Pr (List Rg)
  | 0, top, less, acc => (pOne top less acc).bind fun x => .ret x.2.reverse
  | n + 1, top, less, acc => (pOne top less acc).bind fun x => if x.1 = false then .ret x.2 else
      pInt.bind fun gap => pInt.bind fun less' => if top - less < gap + 2 then (pFail 10).bind fun _ => .ret x.2 else pMore n (top - less - gap - 2) less' x.2
def pAck (k : Int) : Pr FrM := pInt.bind fun top => pInt.bind fun dl => (pCount 31).bind fun more => pInt.bind fun less => (pMore more.toNat top less []).bind fun rg => .ret { FrM.zero k with dl := dl, rg := rg }
def pFits (f : FrM) : Pr FrM := (pIf (4611686018427387903 - (f.data.length : Int) < f.off) 2).bind fun _ => .ret f
def pFields (k : Nat) : Pr FrM := match k with
  | 2 => pAck 2
  | 3 => (pAck 3).bind fun f => pInt.bind fun a => pInt.bind fun b => pInt.bind fun c => .ret { f with e0 := a, e1 := b, e2 := c }
  | 4 => pInt.bind fun a => pInt.bind fun b => pInt.bind fun c => .ret { FrM.zero 4 with st := a, cod := b, lim := c }
  | 5 => pInt.bind fun a => pInt.bind fun b => .ret { FrM.zero 5 with st := a, cod := b }
  | 6 => pInt.bind fun a => (pLong 1200).bind fun d => pFits { FrM.zero 6 with off := a, data := d }
  | 7 => (pCount 64).bind fun n => (pIf (n = 0) 6).bind fun _ => (pBytes n).bind fun d => .ret { FrM.zero 7 with data := d }
  | 16 => pInt.bind fun a => .ret { FrM.zero 16 with lim := a }
  | 17 => pInt.bind fun a => pInt.bind fun b => .ret { FrM.zero 17 with st := a, lim := b }
  | 18 => pInt.bind fun a => (pIf (1152921504606846976 < a) 15).bind fun _ => .ret { FrM.zero 18 with lim := a }
  | 19 => pInt.bind fun a => (pIf (1152921504606846976 < a) 15).bind fun _ => .ret { FrM.zero 19 with lim := a }
  | 20 => pInt.bind fun a => .ret { FrM.zero 20 with lim := a }
  | 21 => pInt.bind fun a => pInt.bind fun b => .ret { FrM.zero 21 with st := a, lim := b }
  | 22 => pInt.bind fun a => (pIf (1152921504606846976 < a) 15).bind fun _ => .ret { FrM.zero 22 with lim := a }
  | 23 => pInt.bind fun a => (pIf (1152921504606846976 < a) 15).bind fun _ => .ret { FrM.zero 23 with lim := a }
  | 24 => pInt.bind fun a => pInt.bind fun b => pByte.bind fun n => (pIf (n = 0 ∨ 20 < n) 6).bind fun _ => (pBytes n).bind fun d => (pBytes 16).bind fun t =>
      (pIf (a < b) 10).bind fun _ => .ret { FrM.zero 24 with sq := a, pr := b, id := d, tok := pad 16 t }
  | 25 => pInt.bind fun a => .ret { FrM.zero 25 with sq := a }
  | 26 => (pBytes 8).bind fun d => .ret { FrM.zero 26 with wd := pad 8 d }
  | 27 => (pBytes 8).bind fun d => .ret { FrM.zero 27 with wd := pad 8 d }
  | 28 => pInt.bind fun a => pInt.bind fun b => (pLong 64).bind fun d => .ret { FrM.zero 28 with cod := a, lim := b, data := d }
  | 29 => pInt.bind fun a => (pLong 64).bind fun d => .ret { FrM.zero 29 with cod := a, data := d }
  | k => .ret (FrM.zero (k : Int))
theorem pF2 : pFields 2 = (pAck 2) := rfl
theorem pF3 : pFields 3 = ((pAck 3).bind fun f => pInt.bind fun a => pInt.bind fun b => pInt.bind fun c => .ret { f with e0 := a, e1 := b, e2 := c }) := rfl
theorem pF4 : pFields 4 = (pInt.bind fun a => pInt.bind fun b => pInt.bind fun c => .ret { FrM.zero 4 with st := a, cod := b, lim := c }) := rfl
theorem pF5 : pFields 5 = (pInt.bind fun a => pInt.bind fun b => .ret { FrM.zero 5 with st := a, cod := b }) := rfl
theorem pF6 : pFields 6 = (pInt.bind fun a => (pLong 1200).bind fun d => pFits { FrM.zero 6 with off := a, data := d }) := rfl
theorem pF7 : pFields 7 = ((pCount 64).bind fun n => (pIf (n = 0) 6).bind fun _ => (pBytes n).bind fun d => .ret { FrM.zero 7 with data := d }) := rfl
theorem pF16 : pFields 16 = (pInt.bind fun a => .ret { FrM.zero 16 with lim := a }) := rfl
theorem pF17 : pFields 17 = (pInt.bind fun a => pInt.bind fun b => .ret { FrM.zero 17 with st := a, lim := b }) := rfl
theorem pF18 : pFields 18 = (pInt.bind fun a => (pIf (1152921504606846976 < a) 15).bind fun _ => .ret { FrM.zero 18 with lim := a }) := rfl
theorem pF19 : pFields 19 = (pInt.bind fun a => (pIf (1152921504606846976 < a) 15).bind fun _ => .ret { FrM.zero 19 with lim := a }) := rfl
theorem pF20 : pFields 20 = (pInt.bind fun a => .ret { FrM.zero 20 with lim := a }) := rfl
theorem pF21 : pFields 21 = (pInt.bind fun a => pInt.bind fun b => .ret { FrM.zero 21 with st := a, lim := b }) := rfl
theorem pF22 : pFields 22 = (pInt.bind fun a => (pIf (1152921504606846976 < a) 15).bind fun _ => .ret { FrM.zero 22 with lim := a }) := rfl
theorem pF23 : pFields 23 = (pInt.bind fun a => (pIf (1152921504606846976 < a) 15).bind fun _ => .ret { FrM.zero 23 with lim := a }) := rfl
theorem pF24 : pFields 24 = (pInt.bind fun a => pInt.bind fun b => pByte.bind fun n => (pIf (n = 0 ∨ 20 < n) 6).bind fun _ => (pBytes n).bind fun d => (pBytes 16).bind fun t => (pIf (a < b) 10).bind fun _ => .ret { FrM.zero 24 with sq := a, pr := b, id := d, tok := pad 16 t }) := rfl
theorem pF25 : pFields 25 = (pInt.bind fun a => .ret { FrM.zero 25 with sq := a }) := rfl
theorem pF26 : pFields 26 = ((pBytes 8).bind fun d => .ret { FrM.zero 26 with wd := pad 8 d }) := rfl
theorem pF27 : pFields 27 = ((pBytes 8).bind fun d => .ret { FrM.zero 27 with wd := pad 8 d }) := rfl
theorem pF28 : pFields 28 = (pInt.bind fun a => pInt.bind fun b => (pLong 64).bind fun d => .ret { FrM.zero 28 with cod := a, lim := b, data := d }) := rfl
theorem pF29 : pFields 29 = (pInt.bind fun a => (pLong 64).bind fun d => .ret { FrM.zero 29 with cod := a, data := d }) := rfl
theorem pF0 : pFields 0 = .ret (FrM.zero ((0 : Nat) : Int)) := rfl
theorem pF1 : pFields 1 = .ret (FrM.zero ((1 : Nat) : Int)) := rfl
theorem pF30 : pFields 30 = .ret (FrM.zero ((30 : Nat) : Int)) := rfl
def pStream (off long fin : Bool) : Pr FrM := pInt.bind fun a => (if off = true then pInt else .ret 0).bind fun b => (if long = true then pLong 1200 else pLeft).bind fun d => pFits { FrM.zero 8 with st := a, off := b, data := d, fin := fin }
def pTake : Pr FrM := pLeast.bind fun k => if 8 ≤ k ∧ k < 16 then pStream (decide (k.toNat / 4 % 2 = 1)) (decide (k.toNat / 2 % 2 = 1)) (decide (k.toNat % 2 = 1)) else if 30 < k then (pFail 5).bind fun _ => .ret (FrM.zero 0) else pFields k.toNat
/-- all frames: as many as can be taken one behind the other; an error -/
inductive Takes : List UInt8 → List FrM → Int → Prop where
  | nil : Takes [] [] 0
  | bad {l : List UInt8} (h0 : l ≠ []) (h : (pTake (l, 0)).2.2 ≠ 0) : Takes l [] (pTake (l, 0)).2.2
  | more {l : List UInt8} {fs : List FrM} {e : Int} (h0 : l ≠ []) (h : (pTake (l, 0)).2.2 = 0) (ht : Takes (pTake (l, 0)).2.1 fs e) : Takes l ((pTake (l, 0)).1 :: fs) e
end Go.Proofs.Ytckdhelnafjddaa
