/- Goroutines: views of many goroutines side by side, and what the trace says of them. No condition. -/
import Derived.Test.YtpgpimedmpeliaaGreatDoorGwCj7
set_option linter.unusedVariables false
set_option linter.unusedSimpArgs false
set_option linter.unusedSectionVars false
set_option linter.unusedVariables false
namespace Go.Gw
open Go Go.Conc
open Go.ConcR (deafBehind_cons deafBehind_one)

structure View where
  F:Nat→Prop
  Z:Nat→Prop
  w:World
def Apart (x y:View):Prop:=∀ b,x.F b→y.F b→x.Z b∧y.Z b
theorem Apart.symm {x y:View} (h:Apart x y):Apart y x:=fun b hy hx=>(h b hx hy).symm
def Zt (W:World) (x:View):View:={ x with w:={ x.w with heap:=x.w.heap++Array.replicate (W.heap.size - x.w.heap.size) XJ,drawn:=W.drawn } }
theorem Qbe {W:World} {x:View}:Rel x.w (Zt W x).w:=by
  refine ⟨rfl,rfl,rfl,by simp [Zt],fun b hb=>?_,fun b h1 h2=>?_⟩
  · simp only [Zt];rw [Array.getElem?_append_left hb]
  · simp only [Zt,Array.size_append,Array.size_replicate] at h2 ⊢
    rw [Array.getElem?_append_right h1,Array.getElem?_replicate,if_pos (by omega)]
theorem Agr.cut {F Z:Nat→Prop} {w W:World} (h:Agr F Z w W):Agr (fun b=>F b∧b < W.heap.size) Z w W :=
  ⟨h.tape,h.drawn,h.os,h.output,h.size,fun b hb hz=>h.own b hb.1 hz,fun b hb hz=>h.shr b hb.1 hz,fun b hb hlt=>h.hid b (fun hF=>hb ⟨hF,by rw [h.size];exact hlt⟩) hlt,fun b hz=>⟨h.zf b hz,by
    obtain ⟨cs,e,fz,h1,_⟩:=h.shr b (h.zf b hz) hz
    rw [h.size]
    exact (Array.getElem?_eq_some_iff.1 h1).1⟩⟩
theorem Agr.grown {F Z : Nat → Prop} {w W W' : World} (h : Agr F Z w W) (x : View) (hx : x = ⟨F, Z, w⟩) (hb : ∀ b, F b → b < W.heap.size) (hs : W.heap.size ≤ W'.heap.size) (ht : W'.tape = W.tape) (ho : W'.os = W.os) (hou : W'.output = W.output)
    (hk:∀ b,F b→W'.heap[b]?=W.heap[b]?):Agr F Z (Zt W' x).w W':=by
  subst hx
  have hsz:(Zt W' ⟨F,Z,w⟩).w.heap.size=W'.heap.size:=by
    have:=h.size
    simp [Zt];omega
  have hold:∀ b,b < w.heap.size→(Zt W' ⟨F,Z,w⟩).w.heap[b]?=w.heap[b]?:=fun b hb=>(Qbe (W:=W') (x:=⟨F,Z,w⟩)).block b hb
  refine ⟨ht.trans h.tape,rfl,ho.trans h.os,hou.trans h.output,hsz.symm,fun b hF hz=>?_,fun b hF hz=>?_,fun b hF hlt=>?_,h.zf⟩
  · rw [hold b (by rw [← h.size];exact hb b hF),hk b hF];exact h.own b hF hz
  · obtain ⟨cs,e,fz,h1,h2⟩:=h.shr b hF hz
    exact ⟨cs,e,fz,by rw [hold b (by rw [← h.size];exact hb b hF)];exact h1,by rw [hk b hF];exact h2⟩
  · rcases Nat.lt_or_ge b w.heap.size with h1 | h1
    · rw [hold b h1];exact h.hid b hF h1
    · exact (Qbe (W:=W') (x:=⟨F,Z,w⟩)).fresh b h1 hlt

/-! ### What a step may list -/
theorem Qim {F Z:Nat→Prop} {e:Event} (h:EvOk F Z e) {b:Touch} (hb:(MemAct.ofEvent e).touch?=some b):∃ ad,AtL b.loc ad∧F ad.block∧(b.write=true→¬ Z ad.block)∧b.kind=.plain:=by
  obtain ⟨loc,wr,sy⟩:=e
  rcases h with ⟨a,h1,h2,h3,h4⟩ | h1
  · simp only at h1 h2 h4
    subst h2
    cases h1 with
    | cell a =>
      simp only [MemAct.ofEvent,MemAct.touch?] at hb
      cases hb
      exact ⟨a,.cell a,h3,h4,rfl⟩
    | obj r =>
      have hb:some (⟨.obj r,wr,.plain⟩:Touch)=some b:=by cases wr<;>exact hb
      cases hb
      exact ⟨_,.obj r,h3,h4,rfl⟩
  · simp only at h1
    rcases h1 with h1 | ⟨f,h1⟩<;>subst h1<;>simp [MemAct.ofEvent,MemAct.touch?] at hb
theorem Qbd {F Z:Nat→Prop} {e:Event} (h:EvOk F Z e):e.loc≠.mark .disable∧e.loc≠.mark .enable:=by
  rcases h with ⟨a,h1,_⟩ | h1
  · generalize e.loc=l at h1
    cases h1<;>exact ⟨(fun h=>by cases h),(fun h=>by cases h)⟩
  · rcases h1 with h1 | ⟨f,h1⟩<;>rw [h1]<;>exact ⟨(fun h=>by cases h),(fun h=>by cases h)⟩
theorem Qil {F Z:Nat→Prop} {e:Event} (h:EvOk F Z e) {B:Nat} (hB:∀ b,F b→b < B):(MemAct.ofEvent e).low B:=by
  obtain ⟨loc,wr,sy⟩:=e
  rcases h with ⟨a,h1,h2,h3,h4⟩ | h1
  · simp only at h1 h2
    subst h2
    cases h1 with
    | cell a =>
      simp only [MemAct.ofEvent,MemAct.low,Loc.low]
      exact hB _ h3
    | obj r=>cases wr<;>exact hB _ h3
  · simp only at h1
    rcases h1 with h1 | ⟨f,h1⟩<;>subst h1<;>simp [MemAct.ofEvent,MemAct.low]
end Go.Gw
