/- Goroutines: one goroutine's walk in its view, whatever the others do meanwhile; no counts. The rules of a piece of code, an operation, a call. No condition. -/
import Derived.Test.YtpgpimedmpeliaaGreatDoorGwCj1
import Derived.Conc.CompanyDraw
set_option linter.unusedVariables false
set_option linter.unusedSimpArgs false
set_option linter.unusedSectionVars false
set_option linter.unusedVariables false
namespace Go.Gw
open Go Go.Conc

structure Rel (w w1:World):Prop where
  os:w1.os=w.os
  tape:w1.tape=w.tape
  output:w1.output=w.output
  size:w.heap.size≤w1.heap.size
  block:∀ b,b < w.heap.size→w1.heap[b]?=w.heap[b]?
  fresh:∀ b,w.heap.size≤b→b < w1.heap.size→w1.heap[b]?=some XJ
theorem Rel.refl (w:World):Rel w w:=⟨rfl,rfl,rfl,Nat.le_refl _,fun _ _=>rfl,fun b h1 h2=>absurd h2 (Nat.not_lt.2 h1)⟩
theorem Rel.trans {a b c:World} (h:Rel a b) (k:Rel b c):Rel a c :=
  ⟨k.os.trans h.os,k.tape.trans h.tape,k.output.trans h.output,Nat.le_trans h.size k.size,fun i hi=>(k.block i (Nat.lt_of_lt_of_le hi h.size)).trans (h.block i hi),fun i h1 h2=>by
    rcases Nat.lt_or_ge i b.heap.size with h3 | h3
    · rw [k.block i h3];exact h.fresh i h1 h3
    · exact k.fresh i h3 h2⟩
theorem NoView.rel {w w1:World} (h:NoView w) (r:Rel w w1):NoView w1:=fun b a u e=>by
  rcases Nat.lt_or_ge b w.heap.size with h1 | h1
  · rw [r.block b h1] at e;exact h b a u e
  · rcases Nat.lt_or_ge b w1.heap.size with h2 | h2
    · rw [r.fresh b h1 h2] at e;cases e
    · rw [Array.getElem?_eq_none h2] at e;cases e

def Zd (P:Program) (main:Bool) (Z:Nat→Prop) (g:Goroutine) (w:World) (g':Goroutine) (w':World):Prop :=
  NoView w→NoView w'∧∀ (F:Nat→Prop) (W:World),Agr F Z w W→∃ F' W' es,stepG P main g W=.go g' W' es∧AgrTo F Z W F' w' W'∧∀ e∈es,EvOk F' Z e

structure Jd (P:Program) where
  main:Bool
  Z:Nat→Prop
  Ph:Goroutine→World→(Goroutine→World→Prop)→Prop

inductive Wlk {P:Program} (J:Jd P) (Stop:Goroutine→World→Prop):Goroutine→World→Prop
  | stop {g:Goroutine} {w:World}:(∀ w1,Rel w w1→Stop g w1)→Wlk J Stop g w
  | step {g:Goroutine} {w:World} (nx:World→Goroutine×World):g.status=.running→(∀ w1,Rel w w1→Zd P J.main J.Z g w1 (nx w1).1 (nx w1).2)→(∀ w1,Rel w w1→Wlk J Stop (nx w1).1 (nx w1).2)→Wlk J Stop g w
  | phase {g:Goroutine} {w:World} (S:Goroutine→World→Prop):g.status=.running→(∀ w1,Rel w w1→J.Ph g w1 S)→(∀ g' w',S g' w'→Wlk J Stop g' w')→Wlk J Stop g w

section
variable {P:Program} {J:Jd P} {Stop:Goroutine→World→Prop} {main:Bool} {Z:Nat→Prop}
theorem Wlk.rely {g:Goroutine} {w w1:World} (h:Wlk J Stop g w) (r:Rel w w1):Wlk J Stop g w1:=by
  cases h with
  | stop h=>exact .stop fun w2 r2=>h w2 (r.trans r2)
  | step nx hs h1 h2=>exact .step nx hs (fun w2 r2=>h1 w2 (r.trans r2)) (fun w2 r2=>h2 w2 (r.trans r2))
  | phase S hs h1 h2=>exact .phase S hs (fun w2 r2=>h1 w2 (r.trans r2)) h2
theorem Wlk.by {g:Goroutine} {w:World} (hs:g.status=.running) (h:∀ w1,Rel w w1→∃ g' w',Zd P J.main J.Z g w1 g' w'∧Wlk J Stop g' w'):Wlk J Stop g w:=by
  have key:∀ w1:World,∃ x:Goroutine×World,Rel w w1→Zd P J.main J.Z g w1 x.1 x.2∧Wlk J Stop x.1 x.2:=fun w1=>by
    rcases Classical.em (Rel w w1) with hr | hr
    · obtain ⟨g',w',h1,h2⟩:=h w1 hr;exact ⟨(g',w'),fun _=>⟨h1,h2⟩⟩
    · exact ⟨(g,w),fun hh=>absurd hh hr⟩
  exact .step (fun w1=>Classical.choose (key w1)) hs (fun w1 hr=>(Classical.choose_spec (key w1) hr).1) (fun w1 hr=>(Classical.choose_spec (key w1) hr).2)

theorem Agr.self (w:World):Agr (fun _=>True) (fun _=>False) w w:=⟨rfl,rfl,rfl,rfl,rfl,fun _ _ _=>rfl,fun _ _ h=>h.elim,fun _ h=>absurd trivial h,fun _ h=>h.elim⟩
theorem QKa {g g':Goroutine} {w:World} (h:∀ W,stepG P main g W=.go g' W #[]):Zd P main Z g w g' w:=fun hv =>
  ⟨hv,fun F W hA=>⟨F,W,#[],h W,⟨hA,fun _ x=>x,fun _ x=>.inl x,Nat.le_refl _,fun _ _ _=>rfl,rfl,rfl,rfl⟩,by simp⟩⟩
theorem Wlk.ctl {g g':Goroutine} {w:World} (hs:g.status=.running) (h:∀ W,stepG P J.main g W=.go g' W #[]) (k:Wlk J Stop g' w):Wlk J Stop g w :=
  .by hs fun w1 r=>⟨g',w1,QKa h,k.rely r⟩
theorem Qth {b : Frame} {a : Act} {k : List Item} {cs : List Frame} {w : World} {id : Nat} {ops : Array Oper} :
    Zd P main Z (G (b.at a (.code (.region id ops true)::k)) cs) w (G (b.at a (.inRegion ops (Region.schedule (P.follows .mixedOrders) ops (w.tape w.drawn (.order b.fn id)))::k)) cs) { w with drawn:=w.drawn+1 }:=fun hv =>
  ⟨hv,fun F W hA=>⟨F,{ W with drawn:=W.drawn+1 },#[],by rw [stepG_region_draw,hA.tape,hA.drawn],
    ⟨⟨hA.tape,by show W.drawn+1=w.drawn+1;rw [hA.drawn],hA.os,hA.output,hA.size,hA.own,hA.shr,hA.hid,hA.zf⟩,fun _ x=>x,fun _ x=>.inl x,Nat.le_refl _,fun _ _ _=>rfl,rfl,rfl,rfl⟩,by simp⟩⟩
def Fr (P:Program) {α:Type} (m:Sem α) (w:World):Prop:=∀ w1,Rel w w1→X6 P m w1
theorem Tame.fr {α:Type} {m:Sem α} {w:World} (h:Tame P m):Fr P m w:=fun _ _=>h.fr0
theorem Fr.rely {α:Type} {m:Sem α} {w w1:World} (h:Fr P m w) (r:Rel w w1):Fr P m w1:=fun w2 r2=>h w2 (r.trans r2)
theorem Qgy {b : Frame} {a : Act} {k : List Item} {cs : List Frame} {w w' : World} {ops : Array Oper} {i : Nat} {rest : List Nat} {o : Oper} {r : Next} {g' : Goroutine} (ht : Fr P (execOp a.eval o) w) (hr : (execOp a.eval o).run P w = .ok r w')
    (hg:∀ W W',(execOp a.eval o).run P W=.ok r W'→stepG P main (G (b.at a (.inRegion ops (i::rest)::k)) cs) W=.go g' W' (listed P b.fn a o W)) :
    Zd P main Z (G (b.at a (.inRegion ops (i::rest)::k)) cs) w g' w':=by
  intro hv
  have hT:∀ w,(execOp a.eval o).runT P w #[]=((execOp a.eval o).run P w,(execOp a.eval o).events P w #[]):=fun w=>Sem.runT_eq P _ w #[]
  have h0:=hT w
  rw [hr] at h0
  obtain ⟨_,_,_,_,_,hv',_,_⟩:=ht w (Rel.refl w) (Agr.self w) hv h0
  refine ⟨hv',fun F W hA=>?_⟩
  obtain ⟨F',W',us,h1,h2,_,h4,h5⟩:=ht w (Rel.refl w) hA hv h0
  have h6:=hT W
  rw [h1] at h6
  have h7:=(Prod.mk.inj h6).1
  have h8:=(Prod.mk.inj h6).2
  refine ⟨F',W',_,hg W W' h7.symm,h2,fun e he=>?_⟩
  have:=mem_listed he
  rw [← h8,h4] at this
  exact h5 e (by simpa using this)
theorem Qti {b : Frame} {a : Act} {w : World} {fn : Func} {todo : List Item} {c : Frame} {cs : List Frame} {v : Value} (hn : b.kind = .normal) (hd : a.defers = []) (hf : P.funcs[b.fn]? = some fn) (ht : Tame P (results fn a.tmps))
    (hr:(results fn a.tmps).run P w=.ok v w):Zd P main Z (G { b.at a todo with mode:=.returning } (c::cs)) w (G (c.finish v) cs) w:=by
  intro hv
  refine ⟨hv,fun F W hA=>?_⟩
  have hT:∀ w,(results fn a.tmps).runT P w #[]=((results fn a.tmps).run P w,(results fn a.tmps).events P w #[]):=fun w=>Sem.runT_eq P _ w #[]
  have h0:=hT w
  rw [hr] at h0
  obtain ⟨F',W',us,h1,h2,_,h4,h5⟩:=frame ht hA hv h0
  have h6:=hT W
  rw [h1] at h6
  have h7:=(Prod.mk.inj h6).1
  have h8:=(Prod.mk.inj h6).2
  refine ⟨F',W',seen P b.fn ((results fn a.tmps).events P W #[]),?_,h2,fun e he=>?_⟩
  · simp [G,stepG,unwind,doReturn,Frame.at,hn,hd,hf,← h7,GStep.after]
  · have:=mem_seen he
    rw [← h8,h4] at this
    exact h5 e (by simpa using this)
end
end Go.Gw
