/- Goroutines: a channel is made; goroutine 0's walk from there on, in pieces. No condition. -/
import Derived.Test.YtjladlhgnoiagaaGreatDoorGwCj7
set_option linter.unusedVariables false
set_option linter.unusedSimpArgs false
set_option linter.unusedSectionVars false
set_option linter.unusedVariables false
namespace Go.Gw
open Go Go.Conc
open Go.ConcN (sumTo upd sumTo_upd upd_ne upd_same)
section
variable {P:Program} {Sh:Loc->Prop} {F F':Nat->Prop} {w w':World} {gs:Array Goroutine} {W W' W2:World} {t:Trace} {q:Nat->Nat} {g g':Goroutine} {S:Goroutine->World->Prop}

theorem Qql (w:World):Rel w { w with heap:=w.heap.push Yw }:=⟨rfl,rfl,rfl,by simp,fun b hb=>by
 grind,fun b h1 h2=>by
 grind⟩

theorem MI.chan (h:MI P Sh F w gs W t q) (h0:gs[0]?=some g) (hr:g'.status=.running) :
  Cfg P Sh W.heap.size F W false (fun _=>False) (fun _=>none) [] g' { w with heap:=w.heap.push Yw } (fun i=>if i=0 then some ⟨F,fun _=>False,{ w with heap:=w.heap.push Yw }⟩ else none) (fun _ _ _=>True) []
   ((List.range gs.size).map fun i=>nt (q i)) (gs.setIfInBounds 0 g') { W with heap:=W.heap.push (.chan 0 #[] false 0 0 false) } t:=by
 have hlt:0 < gs.size:=(Array.getElem?_eq_some_iff.1 h0).1;have hpush:∀ b,b < W.heap.size->(W.heap.push (Obj.chan 0 #[] false 0 0 false))[b]?=W.heap[b]?:=fun b hb=>by grind
 have hpush':∀ b,b < w.heap.size->(w.heap.push Yw)[b]?=w.heap[b]?:=fun b hb=>by grind
 have hagr:Agr F (fun _=>False) { w with heap:=w.heap.push Yw } { W with heap:=W.heap.push (.chan 0 #[] false 0 0 false) }:=by
  refine ⟨h.agr.tape,h.agr.drawn,h.agr.os,h.agr.output,by simp [h.agr.size],fun b hb hz=>?_,fun b _ h=>h.elim,fun b hb hlt=>?_,fun b h=>h.elim⟩
  ·have:=h.bnd b hb;show (W.heap.push _)[b]?=(w.heap.push Yw)[b]?;rw [hpush b this,hpush' b (by rw [<-h.agr.size];exact this)];exact h.agr.own b hb hz
  ·simp only [Array.size_push] at hlt;show (w.heap.push Yw)[b]?=_;rcases Nat.lt_or_ge b w.heap.size with h1 | h1
   ·rw [hpush' b h1];exact h.agr.hid b hb h1
   grind
 have hown:∀ e a ad,touchAt t e=some a->AtL a.loc ad->F ad.block->Knows t 0 e:=fun e a ad ha hl hF=>by
  rcases h.past.known e a ha hl.mem with h1 | h1
  ·exact h1
  ·exact absurd h1.1 (h.shun _ ad hl hF)
 refine ⟨⟨fun i x hx=>?_,fun i j x y hij hx hy=>?_,⟨0,?_⟩,h.past.clean,fun e a ha hm=>?_,fun e g hge hne hc=>.inl (h.past.over e g hge hne hc),fun j hj=>h.lv.above j (by grind),fun op hop=>?_,fun i x x0 hx hx0 b hb=>?_⟩,⟨F,rfl,fun b hb=>hb⟩,by simp [hlt],by grind,by simp,List.nodup_nil,fun i=>?_,rfl,fun i gi hi hgi=>?_,fun b h=>h.elim,fun i x hx b hb=>?_,by simp,fun b hb hn=>hpush b hb,⟨rfl,rfl,rfl⟩⟩
 ·by_cases hi:i=0
  ·subst hi;rw [if_pos rfl] at hx;cases hx;exact ⟨by grind,hagr,h.nov.rel (Qql w),fun b hb=>by have:=h.bnd b hb;simp;omega,fun hF=>absurd (h.bnd _ hF) (Nat.lt_irrefl _),fun e a ad ha hl hF _=>hown e a ad ha hl hF,fun e a ad ha hl hz=>hz.elim,h.past.hears⟩
  simp_all
 ·simp_all
 ·simp
 ·rcases h.past.known e a ha hm with h1 | h1
  ·grind
  simp_all
 ·exact MemAct.low_mono (by simp) (h.past.seen op hop)
 ·grind
 ·simp
 ·rw [Array.getElem?_setIfInBounds_ne (Ne.symm hi)] at hgi;have hlti:=(Array.getElem?_eq_some_iff.1 hgi).1;refine ⟨nt (q i),by simp [hlti],?_⟩;rw [if_neg hi];exact ⟨q i,rfl,h.lv.old i gi (by omega) hgi⟩
 grind

theorem Qux (hrun:g.status=.running) (gn:Nat->Goroutine) (hst:∀ W,stepG P true g W=.go (gn W.heap.size) { W with heap:=W.heap.push (.chan 0 #[] false 0 0 false) } #[])
  (hPW:∀ c w1,Rel w w1->w.heap.size<=c->PW P c S (fun _=>False) (fun _=>none) [] (gn c) w1) :
  ∀ w1,Rel w w1->(Jm P).Ph g w1 S:=by
 intro w1 hr Sh F gs W sl t q h h0;have key:∀ N w1,Rel w w1->∀ gs W sl t q,sumTo gs.size q<=N->MI P Sh F w1 gs W t q->gs[0]?=some g->Reach P (fun gs' W' t'=>∃ Sh',Fin0 P Sh' S F W gs' W' t') gs W sl t:=by
  intro N;have fin:∀ w1,Rel w w1->∀ gs W sl t q,MI P Sh F w1 gs W t q->gs[0]?=some g->∀ (d:Nat) (sl':Option (Nat×Nat)),stepT P (crowd gs W sl)=runT P (crowd gs (W.at d) sl') 0->Reach P (fun gs' W' t'=>∃ Sh',Fin0 P Sh' S F W gs' W' t') gs W sl t:=by
   intro w1 hr gs W sl t q h h0 d sl' hst';have h':=h.at d;have hgr:(gn (W.at d).heap.size).status=.running:=(hPW _ _ (hr.trans (YC w1 d)) (by have:=hr.size;have:=h'.agr.size;have h2:(W.at d).heap.size=W.heap.size:=rfl;have h3:(w1.at d).heap.size=w1.heap.size:=rfl;omega)).running;have hrun':=runT_crowd_go (P:=P) (sl:=sl') (i:=0) h0 (show stepG P (0 == 0) g (W.at d)=_ from hst (W.at d));rw [h'.woken h0 hrun,Qcy] at hrun';have hc:=h'.chan (g':=gn (W.at d).heap.size) h0 hgr;refine Reach.step (hst'.trans hrun') ?_;simp only [Array.append_empty];have hP:=hPW (W.at d).heap.size { w1.at d with heap:=(w1.at d).heap.push Yw } ((hr.trans (YC w1 d)).trans (Qql _)) (by have:=hr.size;have:=h'.agr.size;have h2:(W.at d).heap.size=W.heap.size:=rfl;have h3:(w1.at d).heap.size=w1.heap.size:=rfl;omega);exact (QEt rfl (fun l ad hl hs=>⟨h'.shlt l ad hl hs,fun hF=>h'.shun l ad hl hF hs⟩) hP _ (Rel.refl _) _ _ _ _ _ _ _ _ hc).mono fun gs2 W2 t2 h5=>⟨Sh,h5.back (Went.at F W d)⟩
  induction N with
  | zero =>
   intro w1 hr gs W sl t q hN h h0;obtain ⟨i,gi,d,sl',hi,hri,hst'⟩:=crowd_pick (P:=P) (w:=W) (sl:=sl) (h.awake h0 hrun) ⟨0,g,h0,hrun⟩;by_cases hi0:i=0
   ·grind
   ·obtain ⟨ops,gs',q',h1,h2,h3,h4⟩:=(h.at d).slip h0 hrun hi hi0 hri sl';omega
  | succ N ihN =>
   intro w1 hr gs W sl t q hN h h0;obtain ⟨i,gi,d,sl',hi,hri,hst'⟩:=crowd_pick (P:=P) (w:=W) (sl:=sl) (h.awake h0 hrun) ⟨0,g,h0,hrun⟩;by_cases hi0:i=0
   ·grind
   ·obtain ⟨ops,gs',q',h1,h2,h3,h4⟩:=(h.at d).slip h0 hrun hi hi0 hri sl';exact Reach.step (hst'.trans h1) ((ihN _ (hr.trans (YC w1 d)) gs' (W.at d) sl' _ q' (by omega) h4 h2).mono fun gs2 W2 t2 ⟨Sh',h5⟩=>⟨Sh',h5.back (Went.at F W d)⟩)
 exact key _ w1 hr gs W sl t q (Nat.le_refl _) h h0

/-! ### Pieces -/
def Jp (P:Program) (Z:Nat->Prop):Jd P:=⟨true,Z,fun _ _ _=>False⟩
theorem PW.of {c:Nat} {Z:Nat->Prop} {orig:Nat->Option Obj} {O:List (Value->World->Prop)} (h:Wlk (Jp P Z) (fun g w=>PW P c S Z orig O g w) g w):PW P c S Z orig O g w:=by
 induction h with
 | stop h=>exact h _ (Rel.refl _)
 | step nx hs h1 h2 ih=>exact .step nx hs h1 ih
 | phase S' hs h1 h2 ih=>exact (h1 _ (Rel.refl _)).elim
end
end Go.Gw
