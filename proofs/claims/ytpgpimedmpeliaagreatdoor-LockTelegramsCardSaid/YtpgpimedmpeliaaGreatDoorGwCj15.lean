/- Goroutines: goroutine 0 among workers that each send one value: the run gets behind the last receive. No condition. -/
import Derived.Test.YtpgpimedmpeliaaGreatDoorGwCj14
set_option linter.unusedVariables false
set_option linter.unusedSimpArgs false
set_option linter.unusedSectionVars false
set_option linter.unusedVariables false
namespace Go.Gw
open Go Go.Conc

structure MI (P:Program) (Sh:Loc→Prop) (F:Nat→Prop) (w:World) (gs:Array Goroutine) (W:World) (t:Trace) (q:Nat→Nat):Prop where
  agr:Agr F (fun _=>False) w W
  nov:NoView w
  bnd:∀ b,F b→b < W.heap.size
  shun:∀ (l:Loc) (ad:Addr),AtL l ad→F ad.block→¬ Sh l
  shlt:∀ (l:Loc) (ad:Addr),AtL l ad→Sh l→ad.block < W.heap.size
  past:Past Sh W.heap.size t
  lv:Leavers P t gs q
structure Went (F:Nat→Prop) (W:World) (F':Nat→Prop) (W':World):Prop where
  more:∀ b,F b→F' b
  new:∀ b,F' b→F b∨W.heap.size≤b
  keep:∀ b,b < W.heap.size→¬ F b→W'.heap[b]?=W.heap[b]?
  size:W.heap.size≤W'.heap.size
  same:W'.tape=W.tape∧W'.os=W.os∧W'.output=W.output

def Reach (P:Program) (Q:Array Goroutine→World→Trace→Prop) (gs:Array Goroutine) (W:World) (sl:Option (Nat×Nat)) (t:Trace):Prop :=
  ∃ N gs' W' sl' t',runNT P N (crowd gs W sl) t=(.next (crowd gs' W' sl'),t')∧Q gs' W' t'
theorem Reach.here {P:Program} {Q:Array Goroutine→World→Trace→Prop} {gs:Array Goroutine} {W:World} {sl:Option (Nat×Nat)} {t:Trace} (h:Q gs W t):Reach P Q gs W sl t:=⟨0,gs,W,sl,t,rfl,h⟩
theorem Reach.step {P:Program} {Q:Array Goroutine→World→Trace→Prop} {gs gs1:Array Goroutine} {W W1:World} {sl sl1:Option (Nat×Nat)} {t ops:Trace} (h:stepT P (crowd gs W sl)=(.next (crowd gs1 W1 sl1),ops)) (k:Reach P Q gs1 W1 sl1 (t++ops)):Reach P Q gs W sl t:=by
  obtain ⟨N,gs',W',sl',t',h1,h2⟩:=k
  exact ⟨N+1,gs',W',sl',t',by simp only [runNT,h];exact h1,h2⟩

open Classical in
noncomputable def thaw (Z:Nat→Prop) (orig:Nat→Option Obj) (w:World):World:={ w with heap:=w.heap.mapIdx fun b o=>if Z b then (orig b).getD XJ else o }
open Classical in
theorem Qbz {Z:Nat→Prop} {orig:Nat→Option Obj} {w:World} {b:Nat}:(thaw Z orig w).heap[b]?=(w.heap[b]?).map fun o=>if Z b then (orig b).getD XJ else o:=by
  simp [thaw,Array.getElem?_mapIdx]
theorem Qlc {Z:Nat→Prop} {orig:Nat→Option Obj} {w:World}:(thaw Z orig w).heap.size=w.heap.size:=by simp [thaw]
open Classical in
noncomputable def Z0 (Z C:Nat→Prop) (w:World) (orig:Nat→Option Obj):Nat→Option Obj:=fun b=>if Z b then orig b else w.heap[b]?

def Fin0 (P:Program) (Sh:Loc→Prop) (S:Goroutine→World→Prop) (Fs:Nat→Prop) (Ws:World) (gs:Array Goroutine) (W:World) (t:Trace):Prop :=
  ∃ g F w q,gs[0]?=some g∧S g w∧MI P Sh F w gs W t q∧Went Fs Ws F W

section
variable {P:Program} {Sh:Loc→Prop} {c:Nat} {Fs:Nat→Prop} {Ws:World} {mp:Bool} {Z:Nat→Prop} {orig:Nat→Option Obj} {O:List (Value→World→Prop)} {g:Goroutine} {w:World}
variable {vs:Nat→Option View} {ph:Nat→Value→World→Prop} {A:List Nat} {τ:List Tr} {gs:Array Goroutine} {W:World} {t:Trace} {S:Goroutine→World→Prop}

theorem Qyx {e g:Nat} (h:Knows t 0 e) (hg:t.g? e=some g) (hne:g≠0):∃ j,t.g? j=some 0∧HappensBefore t e j:=by
  obtain ⟨q,z,h1,h2,h3⟩:=h
  rcases h3 with rfl | h3
  · rw [Trace.g?,h1] at hg;simp at hg;rw [h2] at hg;exact absurd hg.symm hne
  · exact ⟨q,by rw [Trace.g?,h1];simp [h2],h3⟩

end
end Go.Gw
