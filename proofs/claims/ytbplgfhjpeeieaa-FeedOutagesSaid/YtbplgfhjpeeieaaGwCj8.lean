/- Goroutines: views of many goroutines side by side, and what the trace says of them. No condition. -/
import Derived.Test.YtbplgfhjpeeieaaGwCj7
set_option linter.unusedVariables false
set_option linter.unusedSimpArgs false
set_option linter.unusedSectionVars false
set_option linter.unusedVariables false
namespace Go.Gw
open Go Go.Conc
open Go.ConcR (deafBehind_cons deafBehind_one)

structure View where
  F : Nat → Prop
  Z : Nat → Prop
  w : World
def Apart (x y : View) : Prop:=∀ b,x.F b → y.F b → x.Z b ∧ y.Z b
theorem Apart.symm {x y : View} (h : Apart x y) : Apart y x:=fun b hy hx=>(h b hx hy).symm
structure Seen (c : Nat) (x : View) (W : World) (t : Trace) (i : Nat) : Prop where
  agr : Agr x.F x.Z x.w W
  nov : NoView x.w
  bnd : ∀ b,x.F b → b < W.heap.size
  chan : ¬ x.F c
  own : ∀ e a ad,touchAt t e = some a → a.loc = .cell ad → x.F ad.block → ¬ x.Z ad.block → Knows t i e
  shr : ∀ e a ad,touchAt t e = some a → a.loc = .cell ad → x.Z ad.block → a.write = true → Knows t i e
  deaf : Deaf t i = 0
structure PI (Sh : Loc → Prop) (c : Nat) (vs : Nat → Option View) (n : Nat) (W : World) (t : Trace) : Prop where
  seen : ∀ i x,vs i = some x → i < n ∧ Seen c x W t i
  apart : ∀ i j x y,i ≠ j → vs i = some x → vs j = some y → Apart x y
  chan : ∃ s,W.heap[c]? = some (.chan 0 #[] false s s false)
  clean : ∀ said,¬ Race said t
  known : ∀ e a,touchAt t e = some a → a.loc.isMemory = true → Knows t 0 e ∨ (Sh a.loc ∧ a.kind = .atomic) ∨ ∃ j,(vs j).isSome = true ∧ Knows t j e
  over : ∀ e g,t.g? e = some g → g ≠ 0 → t.counts e → (∃ j,t.g? j = some 0 ∧ HappensBefore t e j) ∨ ∃ j,(vs j).isSome = true ∧ Knows t j e
  above : ∀ j,n ≤ j → Deaf t j = 0
  low : ∀ op ∈ t,op.act.low W.heap.size
  mono : ∀ i x x0,vs i = some x → vs 0 = some x0 → ∀ b,x.Z b → x0.F b

def JG (W : World) (x : View) : View:={ x with w:={ x.w with heap:=x.w.heap ++ Array.replicate (W.heap.size - x.w.heap.size) YE,drawn:=W.drawn } }
theorem Qdr {W : World} {x : View} : Rel x.w (JG W x).w:=by
  refine ⟨rfl,rfl,rfl,by simp [JG],fun b hb=>?_,fun b h1 h2=>?_⟩
  · simp only [JG]; rw [Array.getElem?_append_left hb]
  · simp only [JG,Array.size_append,Array.size_replicate] at h2 ⊢
    rw [Array.getElem?_append_right h1,Array.getElem?_replicate,if_pos (by omega)]
theorem Agr.cut {F Z : Nat → Prop} {w W : World} (h : Agr F Z w W) : Agr (fun b=>F b ∧ b < W.heap.size) Z w W :=
  ⟨h.tape,h.drawn,h.os,h.output,h.size,fun b hb hz=>h.own b hb.1 hz,fun b hb hz=>h.shr b hb.1 hz,fun b hb hlt=>h.hid b (fun hF=>hb ⟨hF,by rw [h.size]; exact hlt⟩) hlt,fun b hz=>⟨h.zf b hz,by
    obtain ⟨cs,e,fz,h1,_⟩:=h.shr b (h.zf b hz) hz
    rw [h.size]
    exact (Array.getElem?_eq_some_iff.1 h1).1⟩⟩
theorem Agr.grown {F Z : Nat → Prop} {w W W' : World} (h : Agr F Z w W) (x : View) (hx : x = ⟨F, Z, w⟩) (hb : ∀ b, F b → b < W.heap.size) (hs : W.heap.size ≤ W'.heap.size) (ht : W'.tape = W.tape) (ho : W'.os = W.os) (hou : W'.output = W.output)
    (hk : ∀ b,F b → W'.heap[b]? = W.heap[b]?) : Agr F Z (JG W' x).w W':=by
  subst hx
  have hsz : (JG W' ⟨F,Z,w⟩).w.heap.size = W'.heap.size:=by
    have:=h.size
    simp [JG]; omega
  have hold : ∀ b,b < w.heap.size → (JG W' ⟨F,Z,w⟩).w.heap[b]? = w.heap[b]?:=fun b hb=>(Qdr (W:=W') (x:=⟨F,Z,w⟩)).block b hb
  refine ⟨ht.trans h.tape,rfl,ho.trans h.os,hou.trans h.output,hsz.symm,fun b hF hz=>?_,fun b hF hz=>?_,fun b hF hlt=>?_,h.zf⟩
  · rw [hold b (by rw [← h.size]; exact hb b hF),hk b hF]; exact h.own b hF hz
  · obtain ⟨cs,e,fz,h1,h2⟩:=h.shr b hF hz
    exact ⟨cs,e,fz,by rw [hold b (by rw [← h.size]; exact hb b hF)]; exact h1,by rw [hk b hF]; exact h2⟩
  · rcases Nat.lt_or_ge b w.heap.size with h1 | h1
    · rw [hold b h1]; exact h.hid b hF h1
    · exact (Qdr (W:=W') (x:=⟨F,Z,w⟩)).fresh b h1 hlt

/-! ### What a step may list -/
theorem Qnl {F Z : Nat → Prop} {e : Event} (h : Qbt F Z e) {b : Touch} (hb : (MemAct.ofEvent e).touch? = some b) : ∃ ad,b.loc = .cell ad ∧ F ad.block ∧ (b.write = true → ¬ Z ad.block) ∧ b.kind = .plain:=by
  obtain ⟨loc,wr,sy⟩:=e
  rcases h with ⟨a,h1,h2,h3,h4⟩ | h1
  · simp only at h1 h2 h4
    subst h1; subst h2
    simp only [MemAct.ofEvent,MemAct.touch?] at hb
    cases hb
    exact ⟨a,rfl,h3,h4,rfl⟩
  · simp only at h1
    subst h1
    simp [MemAct.ofEvent,MemAct.touch?] at hb
theorem Qff {F Z : Nat → Prop} {e : Event} (h : Qbt F Z e) : e.loc ≠ .mark .disable ∧ e.loc ≠ .mark .enable:=by
  rcases h with ⟨a,h1,_⟩ | h1 <;> rw [h1] <;> simp
theorem Qnk {F Z : Nat → Prop} {e : Event} (h : Qbt F Z e) {B : Nat} (hB : ∀ b,F b → b < B) : (MemAct.ofEvent e).low B:=by
  obtain ⟨loc,wr,sy⟩:=e
  rcases h with ⟨a,h1,h2,h3,h4⟩ | h1
  · simp only at h1 h2
    subst h1
    simp only [MemAct.ofEvent,MemAct.low,Loc.low]
    exact hB _ h3
  · simp only at h1
    subst h1
    simp [MemAct.ofEvent,MemAct.low]
end Go.Gw
