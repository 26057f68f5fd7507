/- Lists of bytes given by whole numbers, and []byte of a []byte. Conditions: none. -/
import Derived.Test.YtckdhelnafjddaaTypes
import Derived.Test.YtckdhelnafjddaaStep
namespace Go.Proofs.Ytckdhelnafjddaa
open Go Go.Sl Go.Proofs
set_option maxRecDepth 20000
set_option linter.unusedVariables false
set_option linter.unusedSimpArgs false

section
variable {P : Program} {ops : Array Oper} {Q : Exit → Act → World → Prop} {B : Nat} {w0 : World} {N : Nat} {G : List Hp} {E : Env} {ty U : TypeId}
open Go.RowKit
/-! ### []byte of []byte: a mark -/
theorem ow_mark {α : Type} {En : Enc α} {d : Nat} {x : Operand} {e e' n cap : Nat} {ao : Option Addr} {c : Hp} {l : List α} {R : Hp → List Hp} {pos : String} {af : Array Edge} {g : Option (Nat × Bool)} {rest : List Oper} (hg : Env.guard E ops g = some true) (hd : Nat.blt d N = true)
    (hU : P.underlying U = some (.slice e)) (he : P.underlying e = some (.int .u8)) (hx : Env.ev E x = some (.slice ao n cap)) (hL : Ls En e' (.slice ao n cap) c l) (hl : 0 < l.length) (hs : Sel G c R)
    (h : ∀ c', Rd En (.slice ao n cap) c' l → OW P ops Q B w0 N (R c') ((d, .slice ao n cap) :: E) rest) :
    OW P ops Q B w0 N G E (⟨some d, .convert U U x, ty, pos, af, g⟩ :: rest) := fun a w ha hw => by
  have hn := hL.len
  subst hn
  unfold wpList
  rw [if_pos (ha.guard (o := ⟨some d, .convert U U x, ty, pos, af, g⟩) hg)]
  refine .inl ?_
  unfold Oper.wp
  have hsl := hL.sl
  have hok := hL.ok
  generalize hxs : l.flatMap En.f = xs at hsl
  generalize hlen : l.length = n at *
  cases hsl with
  | nil => omega
  | @row b n cap pre xs spare post hx' hsp hn =>
    have hb := hw.read hs (List.Mem.head _)
    have hsh : w.shape? b = some (e', (pre ++ (xs ++ (spare ++ post))).toArray.size) := by simp [World.shape?, hb]
    have h3 : (execOp a.eval ⟨some d, .convert U U x, ty, pos, af, g⟩).run P w = .ok (.value (.slice (some ⟨b, pre.length, none⟩) n cap)) (w.freeze ⟨b, (pre ++ (xs ++ (spare ++ post))).toArray.size, none⟩ 1) := by
      simp [execOp, ha.ev hx, convert, run_underlying hU, run_underlying he, markStringish, hsh]
    rw [h3]
    have hlt := (Array.getElem?_eq_some_iff.1 hb).1
    have hw2 : (w.freeze ⟨b, (pre ++ (xs ++ (spare ++ post))).toArray.size, none⟩ 1).heap[b]? = some (.cells (pre ++ (xs ++ (spare ++ post))).toArray e' ((pre ++ (xs ++ (spare ++ post))).toArray.size, (pre ++ (xs ++ (spare ++ post))).toArray.size + 1)) := by
      unfold World.freeze
      rw [if_neg (by decide)]
      simp only [Array.getElem?_modify, if_true, hb, Option.map_some]
      rfl
    have hst := hw.write (w' := w.freeze ⟨b, (pre ++ (xs ++ (spare ++ post))).toArray.size, none⟩ 1) hs (by unfold World.freeze; rw [if_neg (by decide)]) (by unfold World.freeze; rw [if_neg (by decide)]) (by unfold World.freeze; rw [if_neg (by decide)]) (by unfold World.freeze; rw [if_neg (by decide)]; simp) hw2 (fun k hk => by
      unfold World.freeze
      rw [if_neg (by decide)]
      simp only [Array.getElem?_modify]
      rw [if_neg (fun h => hk h.symm)])
    refine h _ (fun B w0 G hs => ⟨⟨_, _, by rw [hlen], by omega⟩, hok, fun ao n' cap' hv hl' => ?_⟩) _ _ (ha.put (by simpa using hd) _) hst
    injection hv with g1 g2 g3
    subst g1
    refine ⟨rfl, fun i u hu => ?_⟩
    rw [hxs] at hu
    have hi : i < xs.length := (List.getElem?_eq_some_iff.1 hu).1
    refine Cell.sub hs (.head _) ?_
    simp only [oOf_some, List.getElem?_toArray]
    rw [List.getElem?_append_right (by omega), Nat.add_sub_cancel_left, List.getElem?_append_left hi]
    exact hu

end

def enI : Enc Int := ⟨fun n => [.int .u8 n], 1, fun n => .int .u8 n, fun n => 0 ≤ n ∧ n ≤ 255⟩
theorem iTy : EncTy Try.prog 5 enI := EncTy.scalar Ty.sc5 rfl (fun _ => rfl) (fun _ => rfl)
@[simp] theorem enI_ok (n : Int) : enI.ok n = (0 ≤ n ∧ n ≤ 255) := rfl
def toB (n : Int) : UInt8 := UInt8.ofNat n.toNat
theorem toB_val {n : Int} (h : enI.ok n) : ((toB n).toNat : Int) = n := by
  have h1 : 0 ≤ n ∧ n ≤ 255 := h
  unfold toB
  rw [UInt8.toNat_ofNat_of_lt' (by show n.toNat < 256; omega)]
  omega
theorem Vw.bytes {S : World → Prop} {v : Value} {l : List Int} (h : Vw enI S v l) : Vw enB S v (l.map toB) := by
  obtain ⟨ao, cap, hv, hc⟩ := h.view
  have hf : ∀ k : List Int, (∀ a ∈ k, enI.ok a) → (k.map toB).flatMap enB.f = k.flatMap enI.f := by
    intro k hk
    induction k with
    | nil => rfl
    | cons a k ih =>
      simp only [List.map_cons, List.flatMap_cons, ih fun x hx => hk x (List.mem_cons_of_mem _ hx)]
      congr 1
      show [Value.int .u8 (toB a).toNat] = [Value.int .u8 a]
      rw [toB_val (hk a (by simp))]
  refine ⟨⟨ao, cap, by rw [List.length_map]; exact hv, by simpa using hc⟩, fun _ _ => trivial, fun ao n cap e hl => ?_⟩
  obtain ⟨h1, h2⟩ := h.get ao n cap e (by simpa using hl)
  exact ⟨h1, fun i u hu => h2 i u (by rw [← hf l h.ok]; exact hu)⟩

end Go.Proofs.Ytckdhelnafjddaa
