/- Laws of the walk. Condition: each theorem says its own. -/
import Derived.Test.YtbigilldfhjedaaGreatDoorGwTx2
import Derived.Test.YtbigilldfhjedaaGreatDoorGwCj7
import Derived.Conc.WrWorld
import Derived.Conc.WgWords
import Derived.Conc.WgGenN
set_option linter.unusedVariables false
set_option linter.unusedSimpArgs false
set_option linter.unusedSectionVars false
open Array renaming getElem?_eq_some_iff→Ea,getElem?_setIfInBounds_ne→Eb,getElem?_eq_getElem→Ec,append_empty→Ef,getElem?_push→Eu,append_assoc→Ev
open Go.Gw.Reach renaming step→Ed
open Go.Gw.Rel renaming refl→Ee
open List renaming countP_congr→Eg,mem_append→Em,mem_cons→En,nodup_cons→Ep,countP_le_length→Eq_,getElem?_set_ne→Er,mem_map_of_mem→Es,countP_pos_iff→Et,mem_map→Ew
open Nat renaming le_refl→Eh,le_trans→Ei,lt_of_lt_of_le→Ej,zero_le→Ey
open Option renaming isSome_iff_exists→Ek,map_eq_some_iff→El,map_some→Eo,some→Ex
section
namespace Go.Gw
open Go Go.Conc
open Go.ConcR (KK wgBlock WgAt stA smA rd wr mk)

inductive Stg where
 | A | B | C | D2 | D3 | D4
inductive Ph where
 | priv
 | lib (s:Stg)
 | quit
 | gone
def Ph.lim:Ph->Lv
 | .priv | .lib .A=>.no
 | .gone=>.zero
 | _=>.rel
def Ph.pre:Ph->Bool
 | .priv | .lib .A | .lib .B | .lib .C=>true
 | _=>false
def Ph.late:Ph->Bool
 | .lib .D2 | .lib .D3 | .lib .D4=>true
 | _=>false
def Stg.deaf:Stg->Nat
 | .A | .B=>0
 | _=>1
inductive Rg where
 | un | reg | fin | acq

section
variable (P:Program) (ty:TypeId) (Wg C:Nat)
def Live (W:World):Prop:=∃ st sm,WgAt ty Wg W st sm
def LW:Nat->Stg->Goroutine->Prop
  | 0,_,_=>False
  | m+1,s,g=>g.status=.running /\
    ((∀ W,Live ty Wg W->∃ g',stepG P false g W=.go g' W #[]/\LW m s g') \/
      match s with
      | .A=>∃ g',(∀ W,Live ty Wg W->stepG P false g W=.go g' W #[ConcR.mk (.releaseMerge (stA Wg))])/\LW m .B g'
      | .B=>∃ g',(∀ W,Live ty Wg W->stepG P false g W=.go g' W #[ConcR.mk .disable])/\LW m .C g'
      | .C => ∀ v wt : Nat, wt <= 1 -> v < 2147483647 -> ∃ g', (∀ W, WgAt ty Wg W (((v + 1 : Nat) : Int) * KK + (wt : Int)) 0 -> stepG P false g W = .go g' (W.setCell (stA Wg) (.int .u64 ((v : Int) * KK + (wt : Int)))) #[rd (stA Wg), wr (stA Wg)]) /\
          ((v=0/\wt=1)->LW m .D2 g')/\(¬ (v=0/\wt=1)->QuitsD P m 1 g')
      | .D2=>∃ g',(∀ W,WgAt ty Wg W 1 0->stepG P false g W=.go g' W #[rd (stA Wg)])/\LW m .D3 g'
      | .D3=>∃ g',(∀ W,WgAt ty Wg W 1 0->stepG P false g W=.go g' (W.setCell (stA Wg) (.int .u64 0)) #[wr (stA Wg)])/\LW m .D4 g'
      | .D4=>mayWake P g=true/\∃ g',(∀ W,WgAt ty Wg W 0 0->stepG P false g W=.go g' (W.setCell (smA Wg) (.int .u32 1)) (semEvents (smA Wg)))/\QuitsD P m 1 g')
def Qdw (k:Nat) (φ:Value->World->Prop) (m:Nat) (g:Goroutine) (w:World):Prop :=
 g.status=.running/\∃ g' v,(∀ W cs e,W.heap[C]?=some (.cells cs e (0,0))->k < cs.size->stepG P false g W=.go g' (W.setCell ⟨C,k,none⟩ v) #[⟨.cell ⟨C,k,none⟩,true,false⟩])/\LW P ty Wg m .A g'/\∀ w1,Rel w w1->φ v w1
def RoleG (v:Option View) (k:Nat) (φ:Value->World->Prop) (p:Ph) (cs:Array Value) (d:Nat) (r:Tr) (g:Goroutine):Prop :=
 match v with
 | none=>∃ m,r=nt m/\QuitsD P m d g
 | some x =>
  match p with
  | .priv=>d=0/\WT P x.Z (Qdw P ty Wg C k φ) r g x.w
  | .lib s=>(∃ m,r=nt m/\LW P ty Wg m s g/\d=s.deaf)/\∃ u,cs[k]?=some u/\∀ w1,Rel x.w w1->φ u w1
  | .quit | .gone=>(∃ m,r=nt m/\QuitsD P m d g)/\∃ u,cs[k]?=some u/\∀ w1,Rel x.w w1->φ u w1
def GrpOk (rg:Rg) (pd:Nat) (bl:Bool) (st:Nat->Ph) (A:List Nat) (W:World):Prop :=
  match rg with
  | .un=>WgAt ty Wg W (((A.countP (fun i=>(st i).pre)+pd:Nat):Int) * KK) 0/\(∀ i∈A,(st i).late=false)/\bl=false
  | .reg => pd = 0 /\ ((0 < A.countP (fun i => (st i).pre) /\ WgAt ty Wg W (((A.countP (fun i => (st i).pre) : Nat) : Int) * KK + 1) 0 /\ ∀ i ∈ A, (st i).late = false) \/
      (A.countP (fun i=>(st i).pre)=0/\∃ i∈A,(((st i=.lib .D2\/st i=.lib .D3)/\WgAt ty Wg W 1 0)\/(st i=.lib .D4/\WgAt ty Wg W 0 0))/\∀ j∈A,j≠i->(st j).late=false) \/
      (A.countP (fun i=>(st i).pre)=0/\bl=false/\WgAt ty Wg W 0 1/\∀ i∈A,(st i).late=false))
  | .fin=>pd=0/\A.countP (fun i=>(st i).pre)=0/\WgAt ty Wg W 0 0/\bl=false/\∀ i∈A,(st i).late=false
  | .acq=>pd=0/\WgAt ty Wg W 0 0/\bl=false/\∀ i∈A,st i=.gone
end
def Yg (bl:Bool) (gm:Goroutine):Goroutine:=if bl then { gm with status:=.blocked } else gm

structure CfgG (P : Program) (Sh : Loc -> Prop) (ty : TypeId) (Wg C N : Nat) (et : TypeId) (cs0 : Array Value) (Fs : Nat -> Prop) (Ws : World) (pd : Nat) (rg : Rg) (bl : Bool) (d0 : Nat) (Z : Nat -> Prop) (orig : Nat -> Option Obj)
  (O:List (Nat×(Value->World->Prop))) (gm:Goroutine) (w:World) (vs:Nat->Option View) (st:Nat->Ph) (slot:Nat->Nat) (ph:Nat->Value->World->Prop) (A:List Nat) (τ:List Tr) (cs:Array Value) (Q:Nat->Addr->Prop)
  (gs:Array Goroutine) (W:World) (t:Trace):Prop where
 pg:PG Sh (stA Wg) C Q (fun i=>(st i).lim) vs gs.size W t
 main:∃ F,vs 0=some ⟨F,Z,w⟩/\∀ b,Fs b->b≠C->F b
 m0:(st 0).lim=.no
 dm:Deaf t 0=d0
 g0:gs[0]?=some (Yg bl gm)
 run:gm.status=.running
 off:bl=true->gm.offers=none
 len:τ.length=gs.size
 nod:A.Nodup
 act:∀ i,i∈A↔i≠0/\(vs i).isSome=true
 posts:O=A.map fun i=>(slot i,ph i)
 sln:(A.map slot).Nodup
 slN:∀ i∈A,slot i < N
 oth:∀ i gi,i≠0->gs[i]?=some gi->∃ r,τ[i]?=some r/\RoleG P ty Wg C (vs i) (slot i) (ph i) (st i) cs (Deaf t i) r gi
 q:∀ i∈A,Q i ⟨C,slot i,none⟩
 q0:∀ ad:Addr,ad.block=C->(∀ i∈A,ad≠⟨C,slot i,none⟩)->Q 0 ad
 row:W.heap[C]?=some (.cells cs et (0,0))
 rsz:cs.size=N
 rold:∀ k,(∀ i∈A,slot i≠k)->cs[k]?=cs0[k]?
 orig:∀ b,Z b->W.heap[b]?=orig b
 bas:∀ i x,vs i=some x->∀ b,x.F b->Fs b\/Ws.heap.size<=b
 size:Ws.heap.size<=W.heap.size
 keep:∀ b,b < Ws.heap.size->¬ Fs b->W.heap[b]?=Ws.heap[b]?
 same:W.tape=Ws.tape/\W.os=Ws.os/\W.output=Ws.output
 wgs:Ws.heap.size<=Wg
 cF:Fs C
 grp:GrpOk ty Wg rg pd bl st A W

section
variable {P:Program} {Sh:Loc->Prop} {ty:TypeId} {Wg C N:Nat} {et:TypeId} {cs0:Array Value} {Fs:Nat->Prop} {Ws:World} {pd:Nat} {rg:Rg} {bl:Bool} {d0:Nat} {Z:Nat->Prop} {orig:Nat->Option Obj}
variable {O:List (Nat×(Value->World->Prop))} {gm:Goroutine} {w:World} {vs:Nat->Option View} {st:Nat->Ph} {slot:Nat->Nat} {ph:Nat->Value->World->Prop} {A:List Nat} {τ:List Tr} {cs:Array Value} {Q:Nat->Addr->Prop}
variable {gs:Array Goroutine} {W:World} {t:Trace}

theorem LW.running {m:Nat} {s:Stg} {g:Goroutine} (h:LW P ty Wg m s g):g.status=.running:=by
 cases m with
 | zero=>exact h.elim
 | succ m=>exact h.1
theorem RoleG.place {v:Option View} {k:Nat} {φ:Value->World->Prop} {p:Ph} {d:Nat} {r:Tr} {g:Goroutine} (h:RoleG P ty Wg C v k φ p cs d r g):g.status=.running\/g.status=.finished:=by
 cases v with
 | none=>obtain ⟨m,_,hq⟩:=h;exact hq.status
 | some x =>
  cases p with
  | priv=>exact .inl h.2.running
  | lib s=>obtain ⟨⟨m,_,hl,_⟩,_⟩:=h;exact .inl hl.running
  | quit=>obtain ⟨⟨m,_,hq⟩,_⟩:=h;exact hq.status
  | gone=>obtain ⟨⟨m,_,hq⟩,_⟩:=h;exact hq.status
theorem RoleG.grown {v:Option View} {k:Nat} {φ:Value->World->Prop} {p:Ph} {d:Nat} {r:Tr} {g:Goroutine} (h:RoleG P ty Wg C v k φ p cs d r g) (f:View->View) (hf:∀ x,(f x).Z=x.Z/\Rel x.w (f x).w):RoleG P ty Wg C (v.map f) k φ p cs d r g:=by
 cases v with
 | none=>exact h
 | some x =>
  obtain ⟨h1,h2⟩:=hf x;cases p with
  | priv=>exact ⟨h.1,by rw [h1];exact h.2.rely h2⟩
  | lib s=>obtain ⟨h3,u,h4,h5⟩:=h;exact ⟨h3,u,h4,fun w1 r=>h5 w1 (h2.trans r)⟩
  | quit=>obtain ⟨h3,u,h4,h5⟩:=h;exact ⟨h3,u,h4,fun w1 r=>h5 w1 (h2.trans r)⟩
  | gone=>obtain ⟨h3,u,h4,h5⟩:=h;exact ⟨h3,u,h4,fun w1 r=>h5 w1 (h2.trans r)⟩
theorem RoleG.cells {v:Option View} {k:Nat} {φ:Value->World->Prop} {p:Ph} {d:Nat} {r:Tr} {g:Goroutine} {cs':Array Value} (h:RoleG P ty Wg C v k φ p cs d r g) (he:cs'[k]?=cs[k]?):RoleG P ty Wg C v k φ p cs' d r g:=by
 cases v with
 | none=>exact h
 | some x =>
  cases p with
  | priv=>exact h
  | lib s=>obtain ⟨h3,u,h4,h5⟩:=h;exact ⟨h3,u,he.trans h4,h5⟩
  | quit=>obtain ⟨h3,u,h4,h5⟩:=h;exact ⟨h3,u,he.trans h4,h5⟩
  | gone=>obtain ⟨h3,u,h4,h5⟩:=h;exact ⟨h3,u,he.trans h4,h5⟩

theorem Qpq {g g':Goroutine} {W':World} (hr:gm.status=.running) (ho:bl=true->gm.offers=none):∃ bl',Conc.woken P g g' W' (Yg bl gm)=Yg bl' gm/\(bl=false->bl'=false)/\(bl'=true->bl=true)/\(mayWake P g=true->(g'.status=.running\/g'.status=.finished)->bl'=false):=by
 cases bl with
 | false=>exact ⟨false,woken_run hr,fun _=>rfl,fun h=>h,fun _ _=>rfl⟩
 | true =>
  have hag:∀ w,(Yg true gm).again w=gm:=fun w=>Go.ConcR.again_blocked hr (ho rfl) w
  unfold Conc.woken;split
  ·exact ⟨false,hag _,fun h=>(by cases h),fun h=>(by cases h),fun _ _=>rfl⟩
  grind
theorem CfgG.awake (h:CfgG P Sh ty Wg C N et cs0 Fs Ws pd rg bl d0 Z orig O gm w vs st slot ph A τ cs Q gs W t):∀ g∈gs,Conc.awake g:=fun g hg=>by
 obtain ⟨i,hi,rfl⟩:=Array.mem_iff_getElem.1 hg;by_cases hi0:i=0
 ·subst hi0;have h0:=h.g0;rw [Ec hi] at h0;rw [Ex.inj h0];intro t ht;have:=h.run
  grind [Yg]
 ·obtain ⟨r,_,hr⟩:=h.oth i _ hi0 (Ec hi);exact awake_of (hr.place.elim .inl fun x=>.inr (.inr x))
theorem CfgG.woken (h:CfgG P Sh ty Wg C N et cs0 Fs Ws pd rg bl d0 Z orig O gm w vs st slot ph A τ cs Q gs W t) {g g':Goroutine} {W':World} {bl':Bool} (hb:Conc.woken P g g' W' (Yg bl gm)=Yg bl' gm) :
  gs.map (Conc.woken P g g' W')=gs.setIfInBounds 0 (Yg bl' gm):=by
 apply Array.ext_getElem?;intro i;rw [Array.getElem?_map];by_cases hi0:i=0
 ·subst hi0;have hlt:=(Ea.1 h.g0).1;rw [h.g0]
  grind
 ·rw [Eb (Ne.symm hi0)];cases hi:gs[i]? with
  | none=>rfl
  | some o =>
   simp only [Eo,Ex.injEq];obtain ⟨r,_,hr⟩:=h.oth i o hi0 hi;unfold Conc.woken;split
   ·exact again_running _ hr.place
   ·rfl
theorem CfgG.at (h:CfgG P Sh ty Wg C N et cs0 Fs Ws pd rg bl d0 Z orig O gm w vs st slot ph A τ cs Q gs W t) (d:Nat):CfgG P Sh ty Wg C N et cs0 Fs Ws pd rg bl d0 Z orig O gm (w.at d) (Qcv vs d) st slot ph A τ cs Q gs (W.at d) t:=by
 obtain ⟨F,h0,hF⟩:=h.main;refine ⟨h.pg.at d,⟨F,by simp [Qcv,h0],hF⟩,h.m0,h.dm,h.g0,h.run,h.off,h.len,h.nod,fun i=>by rw [Qln];exact h.act i,h.posts,h.sln,h.slN,fun i gi hi hg=>?_,h.q,h.q0,h.row,h.rsz,h.rold,h.orig,fun i x hx b hb=>?_,h.size,h.keep,h.same,h.wgs,h.cF,h.grp⟩
 ·obtain ⟨r,h1,h2⟩:=h.oth i gi hi hg;exact ⟨r,h1,h2.grown _ fun x=>⟨rfl,JX _ d⟩⟩
 ·obtain ⟨y,hy,rfl⟩:=El.1 hx;exact h.bas i y hy b hb
theorem CfgG.pick (h:CfgG P Sh ty Wg C N et cs0 Fs Ws pd rg bl d0 Z orig O gm w vs st slot ph A τ cs Q gs W t) (hr:∃ (i:Nat) (gi:Goroutine),gs[i]?=some gi/\gi.status=.running) (sl:Option (Nat×Nat)) :
  ∃ (i:Nat) (gi:Goroutine) (d:Nat) (sl':Option (Nat×Nat)),gs[i]?=some gi/\gi.status=.running/\stepT P (crowd gs W sl)=runT P (crowd gs (W.at d) sl') i/\CfgG P Sh ty Wg C N et cs0 Fs Ws pd rg bl d0 Z orig O gm (w.at d) (Qcv vs d) st slot ph A τ cs Q gs (W.at d) t:=by
 obtain ⟨i,gi,d,sl',h1,h2,h3⟩:=crowd_pick (P:=P) (w:=W) (sl:=sl) h.awake hr;exact ⟨i,gi,d,sl',h1,h2,h3,h.at d⟩
theorem QDe {f:Nat->Nat}:∀ {l:List Nat},(l.map f).Nodup->∀ {a b:Nat},a∈l->b∈l->f a=f b->a=b
 | [],_,_,_,ha,_,_=>by cases ha
 | x::l,h,a,b,ha,hb,e=>by
  rw [List.map_cons,Ep] at h;rcases En.1 ha with rfl | ha'<;>rcases En.1 hb with rfl | hb'
  ·rfl
  ·exact absurd (e▸Es hb') h.1
  ·exact absurd (e▸Es ha') h.1
  ·exact QDe h.2 ha' hb' e
theorem Qix {i:Nat} {fn:FuncId} {pos:String} {es:Array Event}:∀ op∈MemOp.ofEvents i fn pos es,op.g=i:=fun op hop=>by grind [Conc.mem_ofEvents]

open Classical in
theorem CfgG.lib (h:CfgG P Sh ty Wg C N et cs0 Fs Ws pd rg bl d0 Z orig O gm w vs st slot ph A τ cs Q gs W t) {i:Nat} {gi g':Goroutine} {x:View} {W':World} {es:Array Event} {s':Ph} {r r':Tr} {cs':Array Value} {bl':Bool} (sl:Option (Nat×Nat))
    (hi:gs[i]?=some gi) (hi0:i≠0) (hv:vs i=some x) (hstep:stepG P false gi W=.go g' W' es)
    (hpg:PG Sh (stA Wg) C Q (fun j=>(if j=i then s' else st j).lim) vs gs.size W' (t++MemOp.ofEvents i gi.frame.fn gi.frame.place es)) (hτ:τ[i]?=some r) (hsub:Tr.sub r' r)
    (hrole:RoleG P ty Wg C (some x) (slot i) (ph i) s' cs' (deafBehind (Deaf t i) es) r' g') (hcs:cs'.size=N) (hcs2:∀ k,k≠slot i->cs'[k]?=cs[k]?) (hrow:W'.heap[C]?=some (.cells cs' et (0,0)))
    (hW:W'.tape=W.tape/\W'.os=W.os/\W'.output=W.output/\W'.heap.size=W.heap.size) (hblk:∀ b,b≠Wg->b≠C->W'.heap[b]?=W.heap[b]?)
    (hwk:Conc.woken P gi g' W' (Yg bl gm)=Yg bl' gm) (hbl:bl'=true->bl=true) (hgrp:GrpOk ty Wg rg pd bl' (fun j=>if j=i then s' else st j) A W') :
    ∃ (ops:Trace) (gs':Array Goroutine),runT P (crowd gs W sl) i=(.next (crowd gs' W' sl),ops)/\Qhm (τ.set i r') τ/\CfgG P Sh ty Wg C N et cs0 Fs Ws pd rg bl' d0 Z orig O gm w vs (fun j=>if j=i then s' else st j) slot ph A (τ.set i r') cs' Q gs' W' (t++ops):=by
  have hlt:=(Ea.1 hi).1;have hlt0:=(Ea.1 h.g0).1;have hb0:(i == 0)=false:=by simp [hi0]
  have hiA:i∈A:=(h.act i).2 ⟨hi0,by rw [hv];rfl⟩;obtain ⟨F,h0,hF⟩:=h.main;have hs0:=(h.pg.seen 0 _ h0).2;have hrun:=runT_crowd_go (P:=P) (sl:=sl) (i:=i) hi (by rw [hb0];exact hstep);rw [h.woken hwk] at hrun;have hsz:((gs.setIfInBounds 0 (Yg bl' gm)).setIfInBounds i g').size=gs.size:=by simp
  have hself:((gs.setIfInBounds 0 (Yg bl' gm)).setIfInBounds i g')[i]?=some g':=by simp [hlt]
  have hset:∀ j,j≠0->j≠i->((gs.setIfInBounds 0 (Yg bl' gm)).setIfInBounds i g')[j]?=gs[j]?:=fun j hj hji=>by
    grind
  have hτlt:i < τ.length:=by grind
  have hg:=Qix (i:=i) (fn:=gi.frame.fn) (pos:=gi.frame.place) (es:=es);have hslot:∀ j,j∈A->j≠i->slot j≠slot i:=fun j hj hji e=>hji (QDe h.sln hj hiA e)
  refine ⟨_,_,hrun,⟨i,_,_,hτ,hsub,rfl⟩,?_⟩;refine ⟨by simp_all,⟨F,h0,hF⟩,by simp only [if_neg (Ne.symm hi0)];exact h.m0,by rw [Deaf_other t hi0 _ hg];exact h.dm,?_,h.run,fun hb=>h.off (hbl hb),by simp [h.len],h.nod,h.act,h.posts,h.sln,h.slN,fun j gj hj hgj=>?_,h.q,h.q0,hrow,hcs,fun k hk=>?_,fun b hb=>?_,h.bas,by rw [hW.2.2.2];exact h.size,fun b hb hn=>?_,
    ⟨hW.1.trans h.same.1,hW.2.1.trans h.same.2.1,hW.2.2.1.trans h.same.2.2⟩,h.wgs,h.cF,hgrp⟩
  · simp_all
  · by_cases hji:j=i
    · simp_all [Deaf_own,if_pos,List.getElem?_set_self]
    · rw [hset j hj hji] at hgj;simp only [if_neg hji];obtain ⟨r2,h1,h2⟩:=h.oth j gj hj hgj;refine ⟨r2,by grind,?_⟩;rw [Deaf_other t (Ne.symm hji) _ hg];cases hvj:vs j with
      | none=>rw [hvj] at h2;exact h2
      | some y =>
        rw [hvj] at h2;exact h2.cells (hcs2 _ (hslot j ((h.act j).2 ⟨hj,by grind⟩) hji))
  · rw [hcs2 k (fun e=>hk i hiA e.symm)];exact h.rold k hk
  · have hbF:F b:=hs0.agr.zf b hb;rw [hblk b (fun e=>hs0.out b (.inl e) hbF) (fun e=>hs0.out b (.inr e) hbF)];exact h.orig b hb
  · have:=h.wgs;rw [hblk b (by omega) (fun e=>hn (e▸h.cF))];exact h.keep b hb hn
end
end Go.Gw

end
section
namespace Go.Gw
open Go Go.Conc
open Go.ConcR (KK wgBlock WgAt stA smA rd wr mk)
section
variable {P:Program} {Sh:Loc->Prop} {ty:TypeId} {Wg C N:Nat} {et:TypeId} {cs0:Array Value} {Fs:Nat->Prop} {Ws:World} {pd:Nat} {rg:Rg} {bl:Bool} {d0:Nat} {Z:Nat->Prop} {orig:Nat->Option Obj}
variable {O:List (Nat×(Value->World->Prop))} {gm:Goroutine} {w:World} {vs:Nat->Option View} {st st':Nat->Ph} {slot:Nat->Nat} {ph:Nat->Value->World->Prop} {A:List Nat} {τ:List Tr} {cs:Array Value} {Q:Nat->Addr->Prop}
variable {gs:Array Goroutine} {W W':World} {t:Trace} {lim:Nat->Lv} {n:Nat}

theorem Qnf:∀ {N:Nat} {l:List Nat},l.Nodup->(∀ x∈l,x < N)->l.length<=N
  | 0,l,_,h=>by
    cases l with
    | nil=>exact Eh _
    | cons x l=>exact absurd (h x (by simp)) (Nat.not_lt_zero _)
  | N+1,l,hn,h=>by
    by_cases hm:N∈l
    · have h1 := Qnf (N := N) (hn.erase N) fun x hx => by
        have:=hn.mem_erase_iff.1 hx;have:=h x this.2;omega
      rw [List.length_erase_of_mem hm] at h1;omega
    · have := Qnf (N := N) hn fun x hx => by
        have:=h x hx;have:x≠N:=fun e=>hm (e▸hx)
        omega
      omega
theorem Qyh:∀ {A:List Nat},A.Nodup->∀ {i:Nat},i∈A->∀ {p p':Nat->Bool},p i=true->p' i=false->(∀ j,j≠i->p' j=p j)->A.countP p'+1=A.countP p
 | [],_,_,hi,_,_,_,_,_=>by cases hi
 | a::A,hn,i,hi,p,p',h1,h2,h3=>by
  rw [Ep] at hn;rcases En.1 hi with rfl | hi'
  ·grind [Eg]
  ·have hne:a≠i:=fun e=>hn.1 (e▸hi')
   have:=Qyh hn.2 hi' h1 h2 h3
   grind
theorem GrpOk.live (h:GrpOk ty Wg rg pd bl st A W):Live ty Wg W:=by
 cases rg with
 | un=>exact ⟨_,_,h.1⟩
 | reg =>
  rcases h.2 with ⟨_,h1,_⟩ | ⟨_,i,_,h1,_⟩ | ⟨_,_,h1,_⟩
  ·exact ⟨_,_,h1⟩
  ·rcases h1 with ⟨_,h1⟩ | ⟨_,h1⟩<;>exact ⟨_,_,h1⟩
  ·exact ⟨_,_,h1⟩
 | fin=>exact ⟨_,_,h.2.2.1⟩
 | acq=>exact ⟨_,_,h.2.1⟩
theorem GrpOk.flags {bl':Bool} (h:GrpOk ty Wg rg pd bl st A W) (hp:∀ j,(st' j).pre=(st j).pre) (hl:∀ j,(st' j).late=(st j).late) (hs:∀ j,(st j).late=true\/st j=.gone->st' j=st j) (hb:bl'=true->bl=true) (hw:W'.heap[Wg]?=W.heap[Wg]?):GrpOk ty Wg rg pd bl' st' A W':=by
 have e:(fun i=>(st' i).pre)=fun i=>(st i).pre:=funext hp
 have hww:∀ {a b},WgAt ty Wg W a b->WgAt ty Wg W' a b:=fun h=>hw.trans h
 have hbf:bl=false->bl'=false:=fun h0=>by
  simp_all
 cases rg with
 | un =>
  obtain ⟨h1,h2,h3⟩:=h;exact ⟨by simp_all,fun i hi=>(hl i).trans (h2 i hi),hbf h3⟩
 | reg =>
  obtain ⟨h0,h⟩:=h;refine ⟨h0,?_⟩;rw [e];rcases h with ⟨h1,h2,h3⟩ | ⟨h1,i,h2,h3,h4⟩ | ⟨h1,h2,h3,h4⟩
  ·simp_all
  ·refine .inr (.inl ⟨h1,i,h2,?_,fun j hj hji=>(hl j).trans (h4 j hj hji)⟩);rcases h3 with ⟨h5 | h5,h6⟩ | ⟨h5,h6⟩
   ·exact .inl ⟨.inl (by rw [hs i (.inl (by rw [h5];rfl))];exact h5),hww h6⟩
   ·exact .inl ⟨.inr (by rw [hs i (.inl (by rw [h5];rfl))];exact h5),hww h6⟩
   ·exact .inr ⟨by rw [hs i (.inl (by rw [h5];rfl))];exact h5,hww h6⟩
  simp_all
 | fin =>
  obtain ⟨h1,h2,h3,h4,h5⟩:=h;exact ⟨h1,by simp_all,hww h3,hbf h4,fun i hi=>(hl i).trans (h5 i hi)⟩
 | acq =>
  obtain ⟨h1,h2,h3,h4⟩:=h;exact ⟨h1,hww h2,hbf h3,fun i hi=>(hs i (.inr (h4 i hi))).trans (h4 i hi)⟩

theorem QDi {i:Nat} {fn:FuncId} {pos:String} {e:Event}:MemOp.ofEvents i fn pos #[e]=#[{ g:=i,fn:=fn,pos:=pos,act:=.ofEvent e }]:=by rw [ofEvents_eq];simp
theorem PG.one (h:PG Sh (stA Wg) C Q lim vs n W t) {i:Nat} (hin:i < n) {fn:FuncId} {pos:String} {e:Event} (hy:PushOk (stA Wg) C Q lim t { g:=i,fn:=fn,pos:=pos,act:=.ofEvent e }) (hl:(MemAct.ofEvent e).low W.heap.size) (hr:MemAct.ofEvent e≠.mark (.release (stA Wg))) :
  PG Sh (stA Wg) C Q lim vs n W (t++MemOp.ofEvents i fn pos #[e]):=by
 have e1:MemOp.ofEvents i fn pos #[e]=#[{ g:=i,fn:=fn,pos:=pos,act:=.ofEvent e }]:=by rw [ofEvents_eq];simp
 rw [e1];exact h.push hy hin hl hr
theorem PG.mark (h:PG Sh (stA Wg) C Q lim vs n W t) {i:Nat} (hin:i < n) {fn:FuncId} {pos:String} {m:Mark} (hm:(MemAct.mark m).touch?=none) (hl:(MemAct.mark m).low W.heap.size) (hr:m≠.release (stA Wg)):PG Sh (stA Wg) C Q lim vs n W (t++MemOp.ofEvents i fn pos #[Go.ConcR.mk m]) :=
 h.one hin (.calm (by trivial)) (by trivial) (by grind [Go.ConcR.mk,MemAct.ofEvent])
theorem PG.atom1 (h:PG Sh (stA Wg) C Q lim vs n W t) {i:Nat} (hin:i < n) (hd:0 < Deaf t i) {fn:FuncId} {pos:String} {a:Addr} (ha:a.block=Wg) (b:Bool):PG Sh (stA Wg) C Q lim vs n W (t++MemOp.ofEvents i fn pos #[⟨.cell a,b,true⟩]) :=
 h.one hin (.atom a b (by rfl) ha hd) (by
  have:=h.gl;cases b<;>(simp only [MemAct.ofEvent,MemAct.low,Loc.low];rw [ha];exact this)) (by grind [MemAct.ofEvent])
theorem QDj {i:Nat} {fn:FuncId} {pos:String} (e:Event) (l:List Event):MemOp.ofEvents i fn pos (e::l).toArray=MemOp.ofEvents i fn pos #[e]++MemOp.ofEvents i fn pos l.toArray:=by
 grind [Array.toList_inj,ofEvents_eq]
theorem PG.atom2 (h:PG Sh (stA Wg) C Q lim vs n W t) {i:Nat} (hin:i < n) (hd:0 < Deaf t i) {fn:FuncId} {pos:String} {a:Addr} (ha:a.block=Wg):PG Sh (stA Wg) C Q lim vs n W (t++MemOp.ofEvents i fn pos #[rd a,wr a]):=by
 have h1:=h.atom1 (fn:=fn) (pos:=pos) hin hd ha false;have h2:=h1.atom1 (fn:=fn) (pos:=pos) (i:=i) hin (by rw [Deaf_own];exact hd) ha true
 grind [rd,wr,Array,Event,QDj,Ev]
theorem PG.sem (h:PG Sh (stA Wg) C Q lim vs n W t) {i:Nat} (hin:i < n) {fn:FuncId} {pos:String} {a:Addr} (ha:a.block=Wg):PG Sh (stA Wg) C Q lim vs n W (t++MemOp.ofEvents i fn pos (semEvents a)):=by
 have h1:=h.mark (fn:=fn) (pos:=pos) (i:=i) (m:=.disable) hin rfl trivial (by simp);have h2:=h1.atom1 (fn:=fn) (pos:=pos) (i:=i) hin (by rw [Deaf_own];simp [deafBehind,Go.ConcR.mk]) ha false;have h3:=h2.atom1 (fn:=fn) (pos:=pos) (i:=i) hin (by grind [deafBehind,Go.ConcR.mk,Deaf_own]) ha true;have h4:=h3.mark (fn:=fn) (pos:=pos) (i:=i) (m:=.enable) hin rfl trivial (by simp)
 grind [semEvents,Go.ConcR.mk,rd,wr,QDj,Ev]
theorem Qeh (d:Nat) {es:Array Event} (h:es=#[rd (stA Wg)]\/es=#[wr (stA Wg)]\/es=#[rd (stA Wg),wr (stA Wg)]):deafBehind d es=d:=by
 grind [deafBehind,rd,wr]
theorem Qyk (d:Nat) (a:Addr):deafBehind d (semEvents a)=d:=by rfl

theorem Qbg {a:Addr} {v:Value} (b:Nat) (hb:b≠a.block):(W.setCell a v).heap[b]?=W.heap[b]?:=by rw [Qbr,if_neg hb]
theorem PG.set (h:PG Sh (stA Wg) C Q lim vs n W t) {a:Addr} (ha:a.block=Wg\/a.block=C) (v:Value):PG Sh (stA Wg) C Q lim vs n (W.setCell a v) t :=
 h.turn rfl rfl rfl rfl Qan fun b h1 h2=>Qbg b (by rcases ha with e | e<;>(rw [e];assumption))
open Classical in
theorem Qbs {i:Nat} {s':Ph} (h:s'.lim=(st i).lim):(fun j=>(if j=i then s' else st j).lim)=fun j=>(st j).lim:=funext fun j=>by
 grind
open Classical in
theorem Qwe {i:Nat} {s':Ph} (h:s'=st i):(fun j=>if j=i then s' else st j)=st:=funext fun j=>by
 simp_all
open Classical in
theorem GrpOk.upd {i:Nat} {s':Ph} {bl':Bool} (h:GrpOk ty Wg rg pd bl st A W) (hp:s'.pre=(st i).pre) (hl:s'.late=false) (hl2:(st i).late=false) (hng:st i≠.gone) (hb:bl'=true->bl=true) (hw:W'.heap[Wg]?=W.heap[Wg]?):GrpOk ty Wg rg pd bl' (fun j=>if j=i then s' else st j) A W' :=
 h.flags (fun j=>by
  grind) (fun j=>by
  grind) (fun j hj=>by
  grind) hb hw
theorem GrpOk.late (h:GrpOk ty Wg rg pd bl st A W) {i:Nat} (hi:i∈A) (hl:(st i).late=true):rg=.reg/\pd=0/\A.countP (fun i=>(st i).pre)=0/\(((st i=.lib .D2\/st i=.lib .D3)/\WgAt ty Wg W 1 0)\/(st i=.lib .D4/\WgAt ty Wg W 0 0))/\∀ j∈A,j≠i->(st j).late=false:=by
 cases rg with
 | un=>have:=h.2.1 i hi;simp_all
 | fin=>have:=h.2.2.2.2 i hi;simp_all
 | acq=>have:=h.2.2.2 i hi;rw [this] at hl;cases hl
 | reg =>
  obtain ⟨h0,h⟩:=h
  grind
theorem Q0l {a:Addr} {v:Value} {cs:Array Value} {e:TypeId} (ha:a.spot=none) (h:W.heap[a.block]?=some (.cells cs e (0,0))):(W.setCell a v).heap[a.block]?=some (.cells (cs.setIfInBounds a.off v) e (0,0)):=by
 simp_all [Qbr,if_pos]
end
end Go.Gw

end
section
namespace Go.Gw
open Go Go.Conc
open Go.ConcR (KK wgBlock WgAt stA smA rd wr mk)
section
variable {P:Program} {Sh:Loc->Prop} {ty:TypeId} {Wg C N:Nat} {et:TypeId} {cs0:Array Value} {Fs:Nat->Prop} {Ws:World} {pd:Nat} {rg:Rg} {bl:Bool} {d0:Nat} {Z:Nat->Prop} {orig:Nat->Option Obj}
variable {O:List (Nat×(Value->World->Prop))} {gm:Goroutine} {w:World} {vs:Nat->Option View} {st st':Nat->Ph} {slot:Nat->Nat} {ph:Nat->Value->World->Prop} {A:List Nat} {τ:List Tr} {cs:Array Value} {Q:Nat->Addr->Prop}
variable {gs:Array Goroutine} {W W':World} {t:Trace} {n:Nat}

def Qqd (P:Program) (Sh:Loc->Prop) (ty:TypeId) (Wg C N:Nat) (et:TypeId) (cs0:Array Value) (Fs:Nat->Prop) (Ws:World) (pd:Nat) (rg:Rg) (bl:Bool) (d0:Nat) (Z:Nat->Prop) (orig:Nat->Option Obj)
  (O:List (Nat×(Value->World->Prop))) (gm:Goroutine) (w:World) (slot:Nat->Nat) (ph:Nat->Value->World->Prop) (A:List Nat) (τ:List Tr) (Q:Nat->Addr->Prop) (gs:Array Goroutine) (W:World) (t:Trace) (i:Nat) (sl:Option (Nat×Nat)):Prop :=
 ∃ (ops:Trace) (gs':Array Goroutine) (W':World) (vs':Nat->Option View) (st':Nat->Ph) (τ':List Tr) (cs':Array Value) (bl':Bool) (w':World),runT P (crowd gs W sl) i=(.next (crowd gs' W' sl),ops)/\Qhm τ' τ/\Rel w w'/\(bl'=true->bl=true) /\
  CfgG P Sh ty Wg C N et cs0 Fs Ws pd rg bl' d0 Z orig O gm w' vs' st' slot ph A τ' cs' Q gs' W' (t++ops)

theorem Qnj (i:Nat) (fn:FuncId) (pos:String):MemOp.ofEvents i fn pos #[]=#[]:=rfl

open Classical in
theorem CfgG.other (h:CfgG P Sh ty Wg C N et cs0 Fs Ws pd rg bl d0 Z orig O gm w vs st slot ph A τ cs Q gs W t) (hN:N+1 < 2147483647) (hpd:pd<=1) {i:Nat} {gi:Goroutine} (hi:gs[i]?=some gi) (hi0:i≠0) (hr:gi.status=.running) (sl:Option (Nat×Nat)) :
    Qqd P Sh ty Wg C N et cs0 Fs Ws pd rg bl d0 Z orig O gm w slot ph A τ Q gs W t i sl:=by
  obtain ⟨r,hτ,hrole⟩:=h.oth i gi hi0 hi;have hlt:=(Ea.1 hi).1;have hlt0:=(Ea.1 h.g0).1;have hb0:(i == 0)=false:=by simp [hi0]
  obtain ⟨F,h0,hF⟩:=h.main;have hs0:=(h.pg.seen 0 _ h0).2;have hin:i < gs.size:=hlt;cases hv:vs i with
  | none =>
    rw [hv] at hrole;obtain ⟨m,rfl,hq⟩:=hrole;cases m with
    | zero=>rw [hq.1] at hr;cases hr
    | succ m =>
      rcases hq with ⟨hf,_⟩ | ⟨_,g',es,hm,hstp,hq'⟩
      · simp_all
      obtain ⟨bl',hwk,hwf,hwt,_⟩:=Qpq (P:=P) (g:=gi) (g':=g') (W':=W) h.run h.off;have hrun:=runT_crowd_go (P:=P) (sl:=sl) (i:=i) hi (by rw [hb0];exact hstp W);rw [h.woken hwk] at hrun;have hg:=Qix (i:=i) (fn:=gi.frame.fn) (pos:=gi.frame.place) (es:=es);have hself:((gs.setIfInBounds 0 (Yg bl' gm)).setIfInBounds i g')[i]?=some g':=by simp [hlt]
      have hset:∀ j,j≠0->j≠i->((gs.setIfInBounds 0 (Yg bl' gm)).setIfInBounds i g')[j]?=gs[j]?:=fun j hj hji=>by
        grind
      have hτlt:i < τ.length:=by grind
      refine ⟨_,_,W,vs,st,τ.set i (nt m),cs,bl',w,hrun,⟨i,_,_,hτ,Qak m,rfl⟩,Ee w,hwt,?_⟩;refine ⟨by simpa using h.pg.mute hin hm gi.frame.fn gi.frame.place,⟨F,h0,hF⟩,h.m0,by rw [Deaf_other t hi0 _ hg];exact h.dm,?_,h.run,fun hb=>h.off (hwt hb),by simp [h.len],h.nod,h.act,h.posts,h.sln,h.slN,fun j gj hj hgj=>?_,h.q,h.q0,h.row,h.rsz,h.rold,h.orig,h.bas,h.size,h.keep,h.same,h.wgs,h.cF,h.grp.flags (fun _=>rfl) (fun _=>rfl) (fun _ _=>rfl) hwt rfl⟩
      · simp_all
      · by_cases hji:j=i
        · subst hji;rw [hself] at hgj;cases hgj;refine ⟨nt m,by simp_all,?_⟩;rw [hv,Deaf_own];exact ⟨m,rfl,hq'⟩
        · rw [hset j hj hji] at hgj;rw [Er (Ne.symm hji),Deaf_other t (Ne.symm hji) _ hg];exact h.oth j gj hj hgj
  | some x =>
    rw [hv] at hrole;have hiA:i∈A:=(h.act i).2 ⟨hi0,by rw [hv];rfl⟩;have hlive:=h.grp.live;have hWg:Wg≠C:=h.pg.gc
    -- a step at the group
    have atG : ∀ {g' : Goroutine} {W' : World} {es : Array Event} {s' : Ph} {r' : Tr}, stepG P false gi W = .go g' W' es -> PG Sh (stA Wg) C Q (fun j => (if j = i then s' else st j).lim) vs gs.size W' (t ++ MemOp.ofEvents i gi.frame.fn gi.frame.place es) -> Tr.sub r' r ->
        RoleG P ty Wg C (some x) (slot i) (ph i) s' cs (deafBehind (Deaf t i) es) r' g'->(W'.tape=W.tape/\W'.os=W.os/\W'.output=W.output/\W'.heap.size=W.heap.size)->(∀ b,b≠Wg->W'.heap[b]?=W.heap[b]?) ->
        (∀ bl',(bl'=true->bl=true)->(bl=false->bl'=false)->(mayWake P gi=true->(g'.status=.running\/g'.status=.finished)->bl'=false)->GrpOk ty Wg rg pd bl' (fun j=>if j=i then s' else st j) A W')->Qqd P Sh ty Wg C N et cs0 Fs Ws pd rg bl d0 Z orig O gm w slot ph A τ Q gs W t i sl:=by
      intro g' W' es s' r' hstep hpg hsub hro hW hblk hgrp;obtain ⟨bl',hwk,hwf,hwt,hwm⟩:=Qpq (P:=P) (g:=gi) (g':=g') (W':=W') h.run h.off;obtain ⟨ops,gs',h1,h2,h3⟩:=h.lib sl hi hi0 hv hstep hpg hτ hsub hro h.rsz (fun _ _=>rfl) (by rw [hblk C (Ne.symm hWg)];exact h.row) hW (fun b hb _=>hblk b hb) hwk hwt (hgrp bl' hwt hwf hwm);exact ⟨ops,gs',W',vs,_,_,cs,bl',w,h1,h2,Ee w,hwt,h3⟩
    cases hst:st i with
    | priv =>
      rw [hst] at hrole;obtain ⟨hd,hw⟩:=hrole;have hli:(st i).lim=.no:=by rw [hst];rfl
      cases r with
      | leaf=>exact hw.elim
      | mk f =>
        rcases hw.2 x.w (Ee _) with ⟨m,hk,hfk⟩ | ⟨g',w',hvs,hw'⟩
        · -- the store
          obtain ⟨_,g',v,hstp,hl,hφ⟩:=hk;have hks:slot i < cs.size:=by rw [h.rsz];exact h.slN i hiA
          have hstep:=hstp W cs et h.row hks;obtain ⟨bl',hwk,hwf,hwt,hwm⟩:=Qpq (P:=P) (g:=gi) (g':=g') (W':=W.setCell ⟨C,slot i,none⟩ v) h.run h.off;have hpg:PG Sh (stA Wg) C Q (fun j=>(if j=i then Ph.lib .A else st j).lim) vs gs.size (W.setCell ⟨C,slot i,none⟩ v) (t++MemOp.ofEvents i gi.frame.fn gi.frame.place #[⟨.cell ⟨C,slot i,none⟩,true,false⟩]):=by
            rw [Qbs (by rw [hst];rfl)];exact (h.pg.one (e:=⟨.cell ⟨C,slot i,none⟩,true,false⟩) hin (.pay ⟨C,slot i,none⟩ true rfl rfl (h.q i hiA) hli) h.pg.cl (by simp [MemAct.ofEvent])).set (.inr rfl) v
          have hrow:=Q0l (W:=W) (a:=⟨C,slot i,none⟩) (v:=v) rfl h.row;obtain ⟨ops,gs',h1,h2,h3⟩:=h.lib (s':=.lib .A) (r':=nt m) (cs':=cs.setIfInBounds (slot i) v) (bl':=bl') sl hi hi0 hv hstep hpg hτ ⟨f,x.w,rfl,hfk.symm⟩
            ⟨⟨m,rfl,hl,by rw [hd];rfl⟩,v,by simp [hks],hφ⟩ (by simp [h.rsz]) (fun k hk=>Eb (Ne.symm hk)) hrow ⟨rfl,rfl,rfl,Qan⟩ (fun b _ hb=>Qbg b hb) hwk hwt
            (h.grp.upd (by rw [hst];rfl) rfl (by rw [hst];rfl) (by grind) hwt (Qbg Wg hWg))
          exact ⟨ops,gs',_,vs,_,_,_,bl',w,h1,h2,Ee w,hwt,h3⟩
        · -- a step of its own
          obtain ⟨_,hsx⟩:=h.pg.seen i x hv;obtain ⟨hnv,hstep⟩:=hvs hsx.nov;obtain ⟨F',W',es,hgo,hat,hes⟩:=hstep x.F W hsx.agr;have hap:=h.pg.apart 0 i _ x (Ne.symm hi0) h0 hv;have hWk:∀ b,(b=Wg\/b=C)->W'.heap[b]?=W.heap[b]?:=fun b hb=>hat.keep b (by rcases hb with rfl | rfl;exact h.pg.gl;exact h.pg.cl) (.inl (hsx.out b hb))
          obtain ⟨bl',hwk,hwf,hwt,hwm⟩:=Qpq (P:=P) (g:=gi) (g':=g') (W':=W') h.run h.off;have hrun:=runT_crowd_go (P:=P) (sl:=sl) (i:=i) hi (by rw [hb0];exact hgo);rw [h.woken hwk] at hrun;have hpi:=h.pg.step hv hli hat hnv hes gi.frame.fn gi.frame.place;have hg:=Qix (i:=i) (fn:=gi.frame.fn) (pos:=gi.frame.place) (es:=es);have hself:((gs.setIfInBounds 0 (Yg bl' gm)).setIfInBounds i g')[i]?=some g':=by simp [hlt]
          have hset:∀ j,j≠0->j≠i->((gs.setIfInBounds 0 (Yg bl' gm)).setIfInBounds i g')[j]?=gs[j]?:=fun j hj hji=>by
            grind
          have hτlt:i < τ.length:=by grind
          refine ⟨_,_,W',Qbd vs i (some ⟨fun b=>F' b/\b < W'.heap.size,x.Z,w'⟩) W',st,τ.set i (f x.w),cs,bl',(J8 W' ⟨F,Z,w⟩).w,hrun,⟨i,_,_,hτ,⟨f,x.w,rfl,rfl⟩,rfl⟩,Qgi (x:=⟨F,Z,w⟩),hwt,?_⟩;refine ⟨by grind,⟨F,by rw [JI (Ne.symm hi0),h0];rfl,hF⟩,h.m0,by rw [Deaf_other t hi0 _ hg];exact h.dm,?_,h.run,fun hb=>h.off (hwt hb),by simp [h.len],h.nod,fun j=>?_,h.posts,h.sln,h.slN,fun j gj hj hgj=>?_,h.q,h.q0,by rw [hWk C (.inr rfl)];exact h.row,h.rsz,h.rold,fun b hb=>?_,fun j y hy b hb=>?_,Ei h.size hat.size,fun b hb hn=>?_,
            ⟨hat.same.1.trans h.same.1,hat.same.2.1.trans h.same.2.1,hat.same.2.2.trans h.same.2.2⟩,h.wgs,h.cF,h.grp.flags (fun _=>rfl) (fun _=>rfl) (fun _ _=>rfl) hwt (hWk Wg (.inl rfl))⟩
          · simp_all
          · rw [h.act j]
            grind [JI,J9]
          · by_cases hji:j=i
            · subst hji;rw [hself] at hgj;cases hgj;refine ⟨f x.w,by simp_all,?_⟩;rw [J9,hst,Deaf_own,deafBehind_still (fun e he=>Qgg (hes e he))];trivial
            · rw [hset j hj hji] at hgj;rw [Er (Ne.symm hji),Deaf_other t (Ne.symm hji) _ hg,JI hji];obtain ⟨r2,h1,h2⟩:=h.oth j gj hj hgj;exact ⟨r2,h1,h2.grown _ fun y=>⟨rfl,Qgi⟩⟩
          · have hFb:F b:=hs0.agr.zf b hb;rw [hat.keep b (hs0.bnd b hFb) (by
              rcases Classical.em (x.F b) with hxb | hxb
              · exact .inr (hap b hFb hxb).2
              simp_all)]
            exact h.orig b hb
          · by_cases hji:j=i
            · subst hji;rw [J9] at hy;cases hy;rcases hat.new b hb.1 with h1 | h1
              · exact h.bas j x hv b h1
              · exact .inr (Ei h.size h1.1)
            · rw [JI hji] at hy;obtain ⟨y0,hy0,rfl⟩:=El.1 hy;exact h.bas j y0 hy0 b hb
          · rw [hat.keep b (Ej hb h.size) (.inl fun hxb => by
              rcases h.bas i x hv b hxb with h1 | h1
              · exact hn h1
              · omega)]
            exact h.keep b hb hn
    | quit =>
      rw [hst] at hrole;obtain ⟨⟨m,rfl,hq⟩,hwr⟩:=hrole;cases m with
      | zero=>rw [hq.1] at hr;cases hr
      | succ m =>
        rcases hq with ⟨hf,_⟩ | ⟨_,g',es,hm,hstp,hq'⟩
        · simp_all
        refine atG (s':=.quit) (r':=nt m) (hstp W) (by rw [Qbs (by rw [hst])];exact h.pg.mute hin hm _ _) (Qak m) ⟨⟨m,rfl,hq'⟩,hwr⟩ ⟨rfl,rfl,rfl,rfl⟩ (fun _ _=>rfl) fun bl' hb _ _=>?_;rw [Qwe (i:=i) (s':=.quit) hst.symm];exact h.grp.flags (fun _=>rfl) (fun _=>rfl) (fun _ _=>rfl) hb rfl
    | gone =>
      rw [hst] at hrole;obtain ⟨⟨m,rfl,hq⟩,hwr⟩:=hrole;cases m with
      | zero=>rw [hq.1] at hr;cases hr
      | succ m =>
        rcases hq with ⟨hf,_⟩ | ⟨_,g',es,hm,hstp,hq'⟩
        · simp_all
        refine atG (s':=.gone) (r':=nt m) (hstp W) (by rw [Qbs (by rw [hst])];exact h.pg.mute hin hm _ _) (Qak m) ⟨⟨m,rfl,hq'⟩,hwr⟩ ⟨rfl,rfl,rfl,rfl⟩ (fun _ _=>rfl) fun bl' hb _ _=>?_;rw [Qwe (i:=i) (s':=.gone) hst.symm];exact h.grp.flags (fun _=>rfl) (fun _=>rfl) (fun _ _=>rfl) hb rfl
    | lib s =>
      rw [hst] at hrole;obtain ⟨⟨m,rfl,hl,hd⟩,hwr⟩:=hrole;cases m with
      | zero=>exact hl.elim
      | succ m =>
        obtain ⟨_,hl⟩:=hl;rcases hl with hl | hl
        · -- nothing is touched
          obtain ⟨g',hstp,hl'⟩:=hl W hlive;refine atG (s':=.lib s) (r':=nt m) hstp (by rw [Qbs (by rw [hst]),Qnj,Ef];exact h.pg) (Qak m) ⟨⟨m,rfl,hl',hd⟩,hwr⟩ ⟨rfl,rfl,rfl,rfl⟩ (fun _ _=>rfl) fun bl' hb _ _=>?_;rw [Qwe (i:=i) (s':=.lib s) hst.symm];exact h.grp.flags (fun _=>rfl) (fun _=>rfl) (fun _ _=>rfl) hb rfl
        cases s with
        | A =>
          obtain ⟨g',hstp,hl'⟩:=hl;refine atG (s':=.lib .B) (r':=nt m) (hstp W hlive) ?_ (Qak m) ⟨⟨m,rfl,hl',hd⟩,hwr⟩ ⟨rfl,rfl,rfl,rfl⟩ (fun _ _=>rfl) fun bl' hb _ _=>h.grp.upd (by rw [hst];rfl) rfl (by rw [hst];rfl) (by grind) hb rfl;have:=h.pg.rel (i:=i) hin hd (by rw [hst];rfl) gi.frame.fn gi.frame.place;have e:(fun j=>(if j=i then Ph.lib .B else st j).lim)=fun j=>if j=i then .rel else (st j).lim:=funext fun j=>by
            grind [Ph.lim]
          rw [e,QDi];exact this
        | B =>
          obtain ⟨g',hstp,hl'⟩:=hl;refine atG (s':=.lib .C) (r':=nt m) (hstp W hlive) ?_ (Qak m) ⟨⟨m,rfl,hl',by rw [hd];rfl⟩,hwr⟩ ⟨rfl,rfl,rfl,rfl⟩ (fun _ _=>rfl) fun bl' hb _ _=>h.grp.upd (by rw [hst];rfl) rfl (by rw [hst];rfl) (by grind) hb rfl;rw [Qbs (by rw [hst];rfl)];exact h.pg.mark hin rfl trivial (by simp)
        | C =>
          have hpre:(st i).pre=true:=by rw [hst];rfl
          have hpos:0 < A.countP (fun i=>(st i).pre):=Et.2 ⟨i,hiA,hpre⟩;have hle:A.countP (fun i=>(st i).pre)<=N:=by
            refine Ei Eq_ ?_;have:=Qnf h.sln (fun x hx=>by obtain ⟨j,hj,rfl⟩:=Ew.1 hx;exact h.slN j hj);simp_all
          have hdec:∀ s':Ph,s'.pre=false->A.countP (fun j=>((if j=i then s' else st j):Ph).pre)+1=A.countP (fun j=>(st j).pre):=fun s' hs' =>
            Qyh h.nod hiA hpre (by simp [hs']) (fun j hj=>by simp [hj])
          have hdd:0 < Deaf t i:=by rw [hd];trivial
          have go : ∀ v wt : Nat, wt <= 1 -> v + 1 <= A.countP (fun i => (st i).pre) + pd -> WgAt ty Wg W (((v + 1 : Nat) : Int) * KK + (wt : Int)) 0 ->
              (∀ s' bl',s'=Ph.lib .D2/\(v=0/\wt=1)\/s'=Ph.quit/\¬ (v=0/\wt=1)->(bl'=true->bl=true)->(bl=false->bl'=false)->∀ W',WgAt ty Wg W' ((v:Int) * KK+(wt:Int)) 0->GrpOk ty Wg rg pd bl' (fun j=>if j=i then s' else st j) A W') ->
              Qqd P Sh ty Wg C N et cs0 Fs Ws pd rg bl d0 Z orig O gm w slot ph A τ Q gs W t i sl:=by
            intro v wt hwt hv1 hwg hgo;obtain ⟨g',hstp,hA,hB⟩:=hl v wt hwt (by omega);have hnew:=hwg.setSt ((v:Int) * KK+(wt:Int));have hpg:∀ s':Ph,s'.lim=.rel->PG Sh (stA Wg) C Q (fun j=>(if j=i then s' else st j).lim) vs gs.size (W.setCell (stA Wg) (.int .u64 ((v:Int) * KK+(wt:Int)))) (t++MemOp.ofEvents i gi.frame.fn gi.frame.place #[rd (stA Wg),wr (stA Wg)]):=fun s' hs'=>by
              rw [Qbs (by rw [hst,hs'];rfl)];exact (h.pg.atom2 hin hdd rfl).set (.inl rfl) _
            by_cases hc:v=0/\wt=1
            · exact atG (s':=.lib .D2) (r':=nt m) (hstp W hwg) (hpg _ rfl) (Qak m) ⟨⟨m,rfl,hA hc,by trivial⟩,hwr⟩ ⟨rfl,rfl,rfl,Qan⟩ (fun b hb=>Qbg b hb) fun bl' hb hf _=>hgo _ bl' (.inl ⟨rfl,hc⟩) hb hf _ hnew
            · exact atG (s':=.quit) (r':=nt m) (hstp W hwg) (hpg _ rfl) (Qak m) ⟨⟨m,rfl,by rw [Qeh _ (.inr (.inr rfl)),hd];exact hB hc⟩,hwr⟩ ⟨rfl,rfl,rfl,Qan⟩ (fun b hb=>Qbg b hb) fun bl' hb hf _=>hgo _ bl' (.inr ⟨rfl,hc⟩) hb hf _ hnew
          have hnl:∀ j∈A,(st j).late=false->∀ s':Ph,s'.late=false->((if j=i then s' else st j):Ph).late=false:=fun j _ hj s' hs'=>by
            grind
          cases rg with
          | un =>
            obtain ⟨k1,k2,k3⟩:=h.grp;refine go (A.countP (fun i=>(st i).pre)+pd - 1) 0 (by omega) (by omega) (by
              grind) fun s' bl' hs' hb hf W' hW'=>?_
            rcases hs' with ⟨_,h1,h2⟩ | ⟨rfl,_⟩
            · cases h2
            · have e:=hdec .quit rfl;refine ⟨?_,fun j hj=>hnl j hj (k2 j hj) _ rfl,hf k3⟩;have e2:A.countP (fun i=>(st i).pre)+pd - 1=A.countP (fun j=>((if j=i then Ph.quit else st j):Ph).pre)+pd:=by omega
              simp_all
          | fin=>have:=h.grp.2.1;omega
          | acq=>have:=h.grp.2.2.2 i hiA;simp_all
          | reg =>
            obtain ⟨k0,hh⟩:=h.grp;rcases hh with ⟨k1,k2,k3⟩ | ⟨k1,_⟩ | ⟨k1,_⟩
            · refine go (A.countP (fun i => (st i).pre) - 1) 1 (Eh _) (by omega) (by
                simp_all) fun s' bl' hs' hb hf W' hW'=>?_
              rcases hs' with ⟨rfl,h1,_⟩ | ⟨rfl,h1⟩
              · have e:=hdec (.lib .D2) rfl;refine ⟨k0,.inr (.inl ⟨by grind,i,hiA,.inl ⟨.inl (by simp),?_⟩,fun j hj hji=>by simp_all⟩)⟩;simp_all
              · have e:=hdec .quit rfl;have hne:A.countP (fun i=>(st i).pre) - 1≠0:=fun e=>h1 ⟨e,rfl⟩
                refine ⟨k0,.inl ⟨by grind,?_,fun j hj=>hnl j hj (k3 j hj) _ rfl⟩⟩
                grind
            · omega
            · omega
        | D2 =>
          obtain ⟨g',hstp,hl'⟩:=hl;obtain ⟨rfl,k0,k1,k2,k3⟩:=h.grp.late hiA (by rw [hst];rfl);have hwg:WgAt ty Wg W 1 0:=by
            simp_all
          refine atG (s':=.lib .D3) (r':=nt m) (hstp W hwg) (by rw [Qbs (by rw [hst];rfl)];exact h.pg.atom1 hin (by rw [hd];trivial) rfl false) (Qak m) ⟨⟨m,rfl,hl',by trivial⟩,hwr⟩ ⟨rfl,rfl,rfl,rfl⟩ (fun _ _=>rfl) fun bl' hb _ _=>?_;refine ⟨k0,.inr (.inl ⟨?_,i,hiA,.inl ⟨.inr (by simp),hwg⟩,fun j hj hji=>by simp_all⟩)⟩
          grind [Eg,Ph.pre]
        | D3 =>
          obtain ⟨g',hstp,hl'⟩:=hl;obtain ⟨rfl,k0,k1,k2,k3⟩:=h.grp.late hiA (by rw [hst];rfl);have hwg:WgAt ty Wg W 1 0:=by
            simp_all
          refine atG (s':=.lib .D4) (r':=nt m) (hstp W hwg) (by rw [Qbs (by rw [hst];rfl)];exact (h.pg.atom1 hin (by rw [hd];trivial) rfl true).set (.inl rfl) _) (Qak m) ⟨⟨m,rfl,hl',by trivial⟩,hwr⟩ ⟨rfl,rfl,rfl,Qan⟩ (fun b hb=>Qbg b hb) fun bl' hb _ _=>?_;refine ⟨k0,.inr (.inl ⟨?_,i,hiA,.inr ⟨by simp,hwg.setSt 0⟩,fun j hj hji=>by simp_all⟩)⟩
          grind [Eg,Ph.pre]
        | D4 =>
          obtain ⟨hmw,g',hstp,hq'⟩:=hl;obtain ⟨rfl,k0,k1,k2,k3⟩:=h.grp.late hiA (by rw [hst];rfl);have hwg:WgAt ty Wg W 0 0:=by
            simp_all
          refine atG (s':=.quit) (r':=nt m) (hstp W hwg) (by rw [Qbs (by rw [hst];rfl)];exact (h.pg.sem hin rfl).set (.inl rfl) _) (Qak m) ⟨⟨m,rfl,by rw [Qyk,hd];exact hq'⟩,hwr⟩ ⟨rfl,rfl,rfl,Qan⟩ (fun b hb=>Qbg b hb) fun bl' hb _ hm=>?_;refine ⟨k0,.inr (.inr ⟨?_,hm hmw hq'.status,hwg.setSm 1,fun j hj=>?_⟩)⟩
          · grind [Eg,Ph.pre]
          grind [Ph.late]
end
end Go.Gw

end
section
namespace Go.Gw
open Go Go.Conc
open Go.ConcR (KK wgBlock WgAt stA smA rd wr mk)

inductive AS where
 | K | P1 | P2 | E
inductive BS where
 | K | L | Cs (v:Nat) | R | X | S | F | E | Q | Z
def AS.pd:AS->Nat
 | .K | .P1=>0
 | _=>1
def AS.deaf:AS->Nat
 | .P1 | .P2=>1
 | _=>0
section
variable (P:Program) (ty:TypeId) (Wg:Nat)
def MA (gE:Goroutine):Nat->AS->Goroutine->Prop
 | 0,s,g=>s=.E/\g=gE
 | m+1,s,g=>(s=.E/\g=gE)\/(g.status=.running /\
  ((∀ W,Live ty Wg W->∃ g',stepG P true g W=.go g' W #[]/\MA gE m s g') \/
   match s with
   | .K=>∃ g',(∀ W,Live ty Wg W->stepG P true g W=.go g' W #[ConcR.mk .disable])/\MA gE m .P1 g'
   | .P1=>∀ v:Nat,v < 2147483647->∃ g',(∀ W,WgAt ty Wg W ((v:Int) * KK) 0->stepG P true g W=.go g' (W.setCell (stA Wg) (.int .u64 (((v+1:Nat):Int) * KK))) #[rd (stA Wg),wr (stA Wg)])/\MA gE m .P2 g'
   | .P2=>(∃ g',(∀ W,Live ty Wg W->stepG P true g W=.go g' W #[ConcR.mk (.read (smA Wg))])/\MA gE m .P2 g')\/∃ g',(∀ W,Live ty Wg W->stepG P true g W=.go g' W #[ConcR.mk .enable])/\MA gE m .E g'
   | .E=>False))
def MW (An:Goroutine->Prop) (gE:Goroutine):Nat->BS->Goroutine->Prop
  | 0,s,g=>(s=.Z/\g=gE)\/(s=.R/\An g)
  | m+1,s,g=>((s=.Z/\g=gE)\/(s=.R/\An g))\/(g.status=.running /\
    ((∀ W,Live ty Wg W->∃ g',stepG P true g W=.go g' W #[]/\MW An gE m s g') \/
      match s with
      | .K=>∃ g',(∀ W,Live ty Wg W->stepG P true g W=.go g' W #[ConcR.mk .disable])/\MW An gE m .R g'
      | .L=>∀ v:Nat,v < 2147483648->∃ g',(∀ W,WgAt ty Wg W ((v:Int) * KK) 0->stepG P true g W=.go g' W #[rd (stA Wg)])/\(v=0->MW An gE m .E g')/\(v≠0->MW An gE m (.Cs v) g')
      | .Cs v => (∃ g', (∀ W, WgAt ty Wg W ((v : Int) * KK) 0 -> stepG P true g W = .go g' (W.setCell (stA Wg) (.int .u64 ((v : Int) * KK + 1))) #[rd (stA Wg), wr (stA Wg)]) /\ MW An gE m .X g') /\
          ∀ u:Nat,u≠v->u < 2147483648->∃ g',(∀ W,WgAt ty Wg W ((u:Int) * KK) 0->stepG P true g W=.go g' W #[rd (stA Wg)])/\MW An gE m .R g'
      | .R=>False
      | .X=>∃ g',(∀ W,Live ty Wg W->stepG P true g W=.go g' W #[ConcR.mk (.write (smA Wg))])/\MW An gE m .S g'
      | .S=>g.offers=none/\(∀ W st,WgAt ty Wg W st 0->stepG P true g W=.go { g with status:=.blocked } W #[])/\∃ g',(∀ W,WgAt ty Wg W 0 1->stepG P true g W=.go g' (W.setCell (smA Wg) (.int .u32 0)) (semEvents (smA Wg)))/\MW An gE m .F g'
      | .F=>∃ g',(∀ W,WgAt ty Wg W 0 0->stepG P true g W=.go g' W #[rd (stA Wg)])/\MW An gE m .E g'
      | .E=>∃ g',(∀ W,Live ty Wg W->stepG P true g W=.go g' W #[ConcR.mk .enable])/\MW An gE m .Q g'
      | .Q=>∃ g',(∀ W,Live ty Wg W->stepG P true g W=.go g' W #[ConcR.mk (.acquire (stA Wg))])/\MW An gE m .Z g'
      | .Z=>False))
end

section
variable {P:Program} {Sh:Loc->Prop} {ty:TypeId} {Wg C N:Nat} {et:TypeId} {cs0:Array Value} {Fs:Nat->Prop} {Ws:World} {pd:Nat} {rg:Rg} {bl:Bool} {d0:Nat} {Z:Nat->Prop} {orig:Nat->Option Obj}
variable {O:List (Nat×(Value->World->Prop))} {gm:Goroutine} {w:World} {vs:Nat->Option View} {st st':Nat->Ph} {slot:Nat->Nat} {ph:Nat->Value->World->Prop} {A:List Nat} {τ:List Tr} {cs:Array Value} {Q:Nat->Addr->Prop}
variable {gs:Array Goroutine} {W W':World} {t:Trace} {n:Nat}

theorem CfgG.mlib (h:CfgG P Sh ty Wg C N et cs0 Fs Ws pd rg false d0 Z orig O gm w vs st slot ph A τ cs Q gs W t) {g':Goroutine} {es:Array Event} {pd':Nat} {rg':Rg} {bl':Bool} (sl:Option (Nat×Nat)) (hstep:stepG P true gm W=.go (Yg bl' g') W' es) (hr':g'.status=.running) (ho':bl'=true->g'.offers=none)
    (hpg:PG Sh (stA Wg) C Q (fun j=>(st j).lim) vs gs.size W' (t++MemOp.ofEvents 0 gm.frame.fn gm.frame.place es)) (hW:W'.tape=W.tape/\W'.os=W.os/\W'.output=W.output/\W'.heap.size=W.heap.size) (hblk:∀ b,b≠Wg->W'.heap[b]?=W.heap[b]?)
    (hgrp:GrpOk ty Wg rg' pd' bl' st A W') :
    ∃ (ops:Trace) (gs':Array Goroutine),runT P (crowd gs W sl) 0=(.next (crowd gs' W' sl),ops)/\CfgG P Sh ty Wg C N et cs0 Fs Ws pd' rg' bl' (deafBehind d0 es) Z orig O g' w vs st slot ph A τ cs Q gs' W' (t++ops):=by
  have hlt0:=(Ea.1 h.g0).1;obtain ⟨F,h0,hF⟩:=h.main;have hs0:=(h.pg.seen 0 _ h0).2;have hrun:=runT_crowd_go (P:=P) (sl:=sl) (i:=0) h.g0 (show stepG P (0 == 0) (Yg false gm) W=_ from hstep);rw [h.woken (bl':=false) (woken_run h.run)] at hrun;have hgs:(gs.setIfInBounds 0 (Yg false gm)).setIfInBounds 0 (Yg bl' g')=gs.setIfInBounds 0 (Yg bl' g'):=by
    simp
  rw [hgs] at hrun;change _=(_,MemOp.ofEvents 0 gm.frame.fn gm.frame.place es) at hrun;have hg:=Qix (i:=0) (fn:=gm.frame.fn) (pos:=gm.frame.place) (es:=es);refine ⟨_,_,hrun,?_⟩;refine ⟨by grind,⟨F,h0,hF⟩,h.m0,by rw [Deaf_own,h.dm],by simp [hlt0],hr',ho',by simp [h.len],h.nod,h.act,h.posts,h.sln,h.slN,fun j gj hj hgj=>?_,h.q,h.q0,by rw [hblk C (Ne.symm h.pg.gc)];exact h.row,h.rsz,h.rold,fun b hb=>?_,h.bas,by rw [hW.2.2.2];exact h.size,fun b hb hn=>?_,
    ⟨hW.1.trans h.same.1,hW.2.1.trans h.same.2.1,hW.2.2.1.trans h.same.2.2⟩,h.wgs,h.cF,hgrp⟩
  · rw [Eb (Ne.symm hj)] at hgj;rw [Deaf_other t (Ne.symm hj) _ hg];exact h.oth j gj hj hgj
  · have hbF:F b:=hs0.agr.zf b hb;rw [hblk b (fun e=>hs0.out b (.inl e) hbF)];exact h.orig b hb
  · have:=h.wgs;rw [hblk b (by omega)];exact h.keep b hb hn

theorem CfgG.own (h:CfgG P Sh ty Wg C N et cs0 Fs Ws pd .un false 0 Z orig O gm w vs st slot ph A τ cs Q gs W t) {g':Goroutine} {w':World} (hv:JQ P true Z gm w g' w') (hr:g'.status=.running) (sl:Option (Nat×Nat)) :
    ∃ (ops:Trace) (gs':Array Goroutine) (W':World) (vs':Nat->Option View),runT P (crowd gs W sl) 0=(.next (crowd gs' W' sl),ops)/\CfgG P Sh ty Wg C N et cs0 Fs Ws pd .un false 0 Z orig O g' w' vs' st slot ph A τ cs Q gs' W' (t++ops):=by
  obtain ⟨F,h0,hF⟩:=h.main;have hs0:=(h.pg.seen 0 _ h0).2;obtain ⟨hnv,hstep⟩:=hv hs0.nov;obtain ⟨F',W',es,hgo,hat,hes⟩:=hstep F W hs0.agr;have hlt:0 < gs.size:=(Ea.1 h.g0).1;have hWk:∀ b,(b=Wg\/b=C)->W'.heap[b]?=W.heap[b]?:=fun b hb=>hat.keep b (by rcases hb with rfl | rfl;exact h.pg.gl;exact h.pg.cl) (.inl (hs0.out b hb))
  have hrun:=runT_crowd_go (P:=P) (sl:=sl) (i:=0) h.g0 (show stepG P (0 == 0) (Yg false gm) W=_ from hgo);rw [h.woken (bl':=false) (woken_run h.run)] at hrun;have hgs:(gs.setIfInBounds 0 (Yg false gm)).setIfInBounds 0 g'=gs.setIfInBounds 0 g':=by
    simp
  rw [hgs] at hrun;change _=(_,MemOp.ofEvents 0 gm.frame.fn gm.frame.place es) at hrun;have hpi:=h.pg.step h0 h.m0 hat hnv hes gm.frame.fn gm.frame.place;have hg:=Qix (i:=0) (fn:=gm.frame.fn) (pos:=gm.frame.place) (es:=es);refine ⟨_,_,_,Qbd vs 0 (some ⟨fun b=>F' b/\b < W'.heap.size,Z,w'⟩) W',hrun,?_⟩;refine ⟨by grind,⟨fun b=>F' b/\b < W'.heap.size,by rfl,fun b hb hc=>⟨hat.more b (hF b hb hc),Ej (hs0.bnd b (hF b hb hc)) hat.size⟩⟩,h.m0,
    by rw [Deaf_own,deafBehind_still (fun e he=>Qgg (hes e he))];exact h.dm,by simp [Yg,hlt],hr,fun e=>(by cases e),by simp [h.len],h.nod,fun j=>?_,h.posts,h.sln,h.slN,fun j gj hj hgj=>?_,h.q,h.q0,by rw [hWk C (.inr rfl)];exact h.row,h.rsz,h.rold,fun b hb=>?_,fun j y hy b hb=>?_,Ei h.size hat.size,fun b hb hn=>?_,
    ⟨hat.same.1.trans h.same.1,hat.same.2.1.trans h.same.2.1,hat.same.2.2.trans h.same.2.2⟩,h.wgs,h.cF,h.grp.flags (fun _=>rfl) (fun _=>rfl) (fun _ _=>rfl) (fun e=>e) (hWk Wg (.inl rfl))⟩
  · rw [h.act j]
    grind [JI]
  · rw [Eb (Ne.symm hj)] at hgj;rw [Deaf_other t (Ne.symm hj) _ hg,JI hj];obtain ⟨r2,h1,h2⟩:=h.oth j gj hj hgj;exact ⟨r2,h1,h2.grown _ fun y=>⟨rfl,Qgi⟩⟩
  · rw [hat.keep b (hs0.bnd b (hs0.agr.zf b hb)) (.inr hb)];exact h.orig b hb
  · by_cases hj:j=0
    · subst hj;rw [J9] at hy;cases hy;rcases hat.new b hb.1 with h1 | h1
      · exact h.bas 0 _ h0 b h1
      · exact .inr (Ei h.size h1.1)
    · rw [JI hj] at hy;obtain ⟨y0,hy0,rfl⟩:=El.1 hy;exact h.bas j y0 hy0 b hb
  · rw [hat.keep b (Ej hb h.size) (.inl fun hxb => by
      rcases h.bas 0 _ h0 b hxb with h1 | h1
      · exact hn h1
      · omega)]
    exact h.keep b hb hn

theorem CfgG.cnt (h:CfgG P Sh ty Wg C N et cs0 Fs Ws pd rg bl d0 Z orig O gm w vs st slot ph A τ cs Q gs W t):A.countP (fun i=>(st i).pre)<=N:=by
 refine Ei Eq_ ?_;have:=Qnf h.sln (fun x hx=>by obtain ⟨j,hj,rfl⟩:=Ew.1 hx;exact h.slN j hj);simp_all

theorem MA.running {gE:Goroutine} (hE:gE.status=.running) {m:Nat} {s:AS} {g:Goroutine} (h:MA P ty Wg gE m s g):g.status=.running:=by
 cases m with
 | zero=>rw [h.2];exact hE
 | succ m =>
  rcases h with h | h
  ·simp_all
  ·exact h.1
theorem PG.said0 {lim:Nat->Lv} (h:PG Sh (stA Wg) C Q lim vs n W t) (hin:0 < n) {fn:FuncId} {pos:String} {a:Addr} (ha:a.block=Wg):PG Sh (stA Wg) C Q lim vs n W (t++MemOp.ofEvents 0 fn pos #[Go.ConcR.mk (.read a)])/\PG Sh (stA Wg) C Q lim vs n W (t++MemOp.ofEvents 0 fn pos #[Go.ConcR.mk (.write a)]):=by
 have:=h.gl;have hl:a.block < W.heap.size:=by rw [ha];exact this
 exact ⟨h.one hin (.said a rfl ha (.inl rfl)) hl (by simp [Go.ConcR.mk,MemAct.ofEvent]),h.one hin (.said a rfl ha (.inr rfl)) hl (by simp [Go.ConcR.mk,MemAct.ofEvent])⟩
theorem QIu {gE:Goroutine} {S:Array Goroutine->World->Trace->Prop} (hN:N+1 < 2147483647) (hE:gE.status=.running)
    (hk:∀ w2,Rel w w2->∀ τ vs st ph slot A cs Q gs W sl t,CfgG P Sh ty Wg C N et cs0 Fs Ws 1 .un false 0 Z orig O gE w2 vs st slot ph A τ cs Q gs W t->Reach P S gs W sl t) :
    ∀ m s g,MA P ty Wg gE m s g->∀ τ w1,Rel w w1->∀ vs st ph slot A cs Q gs W sl t,CfgG P Sh ty Wg C N et cs0 Fs Ws s.pd .un false s.deaf Z orig O g w1 vs st slot ph A τ cs Q gs W t->Reach P S gs W sl t:=by
  intro m
  induction m with
  | zero =>
    rintro s g ⟨rfl,rfl⟩ τ w1 hr vs st ph slot A cs Q gs W sl t h;exact hk w1 hr _ _ _ _ _ _ _ _ _ _ _ _ h
  | succ m ih =>
    intro s g hm τ
    induction Qhp τ with
    | intro τ _ ih2 =>
      intro w1 hr vs st ph slot A cs Q gs W sl t h;rcases id hm with ⟨rfl,rfl⟩ | ⟨hrun,hm1⟩
      · exact hk w1 hr _ _ _ _ _ _ _ _ _ _ _ _ h
      obtain ⟨i,gi,d,sl',hgi,hrg,hst,h'⟩:=h.pick ⟨0,g,h.g0,hrun⟩ sl;have hr2:=hr.trans (JX w1 d);by_cases hi0:i=0
      · subst hi0;have hlive:=h'.grp.live;have hin:0 < gs.size:=(Ea.1 h'.g0).1
        have go : ∀ {g' : Goroutine} {W' : World} {es : Array Event} {s' : AS}, stepG P true g (W.at d) = .go g' W' es -> MA P ty Wg gE m s' g' -> PG Sh (stA Wg) C Q (fun j => (st j).lim) (Qcv vs d) gs.size W' (t ++ MemOp.ofEvents 0 g.frame.fn g.frame.place es) ->
            (W'.tape=(W.at d).tape/\W'.os=(W.at d).os/\W'.output=(W.at d).output/\W'.heap.size=(W.at d).heap.size)->(∀ b,b≠Wg->W'.heap[b]?=(W.at d).heap[b]?)->GrpOk ty Wg .un s'.pd false st A W'->deafBehind s.deaf es=s'.deaf->Reach P S gs W sl t:=by
          intro g' W' es s' hs hm' hpg hW hblk hgrp hd;obtain ⟨ops,gs',h1,h2⟩:=h'.mlib (bl':=false) sl' hs (hm'.running hE) (fun e=>by cases e) hpg hW hblk hgrp
          grind [Ed]
        rcases hm1 with hm1 | hm1
        · obtain ⟨g',hs,hm'⟩:=hm1 _ hlive;exact go hs hm' (by rw [Qnj,Ef];exact h'.pg) ⟨rfl,rfl,rfl,rfl⟩ (fun _ _=>rfl) h'.grp rfl
        · cases s with
          | K =>
            obtain ⟨g',hs,hm'⟩:=hm1;exact go (hs _ hlive) hm' (h'.pg.mark hin rfl trivial (by simp)) ⟨rfl,rfl,rfl,rfl⟩ (fun _ _=>rfl) h'.grp rfl
          | P1 =>
            obtain ⟨k1,k2,k3⟩:=h'.grp;have hc:=h'.cnt;obtain ⟨g',hs,hm'⟩:=hm1 (A.countP (fun i=>(st i).pre)) (by omega);have k1:WgAt ty Wg (W.at d) (((A.countP (fun i=>(st i).pre):Nat):Int) * KK) 0:=by trivial
            exact go (hs _ k1) hm' ((h'.pg.atom2 hin (by rw [h'.dm];trivial) rfl).set (.inl rfl) _) ⟨rfl,rfl,rfl,Qan⟩ (fun b hb=>Qbg b hb) ⟨k1.setSt _,k2,k3⟩ (Qeh _ (.inr (.inr rfl)))
          | P2 =>
            rcases hm1 with ⟨g',hs,hm'⟩ | ⟨g',hs,hm'⟩
            · exact go (hs _ hlive) hm' (h'.pg.said0 hin rfl).1 ⟨rfl,rfl,rfl,rfl⟩ (fun _ _=>rfl) h'.grp rfl
            · exact go (s':=.E) (hs _ hlive) hm' (h'.pg.mark hin rfl trivial (by simp)) ⟨rfl,rfl,rfl,rfl⟩ (fun _ _=>rfl) h'.grp rfl
          | E=>grind
      · obtain ⟨ops,gs',W',vs',st',τ',cs',bl',w',h1,h2,h3,h4,h5⟩:=h'.other hN (by grind [AS.pd]) hgi hi0 hrg sl';have hbl:bl'=false:=by simp_all
        subst hbl;exact Ed (hst.trans h1) (ih2 τ' h2 w' (hr2.trans h3) _ _ _ _ _ _ _ _ _ _ _ h5)
end
end Go.Gw

end
section
namespace Go.Gw
open Go Go.Conc
open Go.ConcR (KK wgBlock WgAt stA smA rd wr mk)
section
variable {Sh:Loc->Prop} {ga:Addr} {C n:Nat} {lim:Nat->Lv} {W:World} {t:Trace}
theorem Shows.trans {a b c:World} (h:Shows a b) (k:Shows b c):Shows a c:=fun x cs e fz hx=>k x cs e fz (h x cs e fz hx)
theorem More.refl (w:World):More w w:=⟨rfl,rfl,rfl,rfl,fun _ _ _=>rfl⟩
theorem More.trans {a b c:World} (h:More a b) (k:More b c):More a c :=
 ⟨k.os.trans h.os,k.tape.trans h.tape,k.output.trans h.output,k.size.trans h.size,fun x hx hj=>by
  have:=h.block x hx hj;rw [<-this];exact k.block x (by grind) (by simp_all)⟩
theorem QCe (hl0:lim 0=.no):∀ (B:List Nat) (Q:Nat->Addr->Prop) (vs:Nat->Option View) (x:View),PG Sh ga C Q lim vs n W t->vs 0=some x->B.Nodup->(∀ i∈B,i≠0/\(vs i).isSome=true/\lim i=.zero) ->
    ∃ (Q':Nat->Addr->Prop) (vs':Nat->Option View) (x':View),PG Sh ga C Q' lim vs' n W t/\vs' 0=some x'/\(∀ i∈B,vs' i=none)/\(∀ j,j∉B->j≠0->vs' j=vs j)/\x'.Z=x.Z/\More x.w x'.w/\(∀ i∈B,∀ y,vs i=some y->Shows y.w x'.w) /\
      (∀ b,x'.F b->x.F b\/∃ i∈B,∃ y,vs i=some y/\y.F b)/\(∀ b,x.F b->x'.F b)/\(∀ b,(∀ i∈B,∀ y,vs i=some y->y.F b->x.F b)->x'.w.heap[b]?=x.w.heap[b]?)
  | [],Q,vs,x,h,h0,_,_=>⟨Q,vs,x,h,h0,fun i hi=>(by cases hi),fun _ _ _=>rfl,rfl,More.refl _,fun i hi=>(by cases hi),fun b hb=>.inl hb,fun b hb=>hb,fun _ _=>rfl⟩
  | i::B,Q,vs,x,h,h0,hn,hB=>by
    obtain ⟨hiB,hn⟩:=Ep.1 hn;obtain ⟨hi0,his,hiz⟩:=hB i (by simp);obtain ⟨y,hy⟩:=Ek.1 his;have hm:=h.merge h0 hl0 hy hi0 (fun e he=>by rw [hiz] at he;exact he);have hx:=(h.seen 0 x h0).2;have sy:=(h.seen i y hy).2;have hap:=h.apart 0 i x y (Ne.symm hi0) h0 hy;have Yz:∀ k,k≠0->k≠i->(if k=0 then some (⟨fun b=>x.F b\/y.F b,x.Z,Gw.merge x y⟩:View) else if k=i then none else vs k)=vs k:=fun k hk hki=>by simp_all
    have hne:∀ k∈B,k≠i:=fun k hk e=>hiB (e▸hk)
    obtain ⟨Q',vs',x',k1,k2,k3,k4,k5,k6,k7,k8,k9,k10⟩:=QCe hl0 B _ _ ⟨fun b=>x.F b\/y.F b,x.Z,Gw.merge x y⟩ hm (if_pos rfl) hn fun k hk=>by
      simp_all
    have hB0:∀ k∈B,k≠0:=fun k hk=>(hB k (by simp [hk])).1
    refine ⟨Q',vs',x',k1,k2,fun k hk=>?_,fun k hk hk0=>?_,k5,(QSr hx.agr).trans k6,fun k hk z hz=>?_,fun b hb=>?_,fun b hb=>k9 b (.inl hb),fun b hb=>?_⟩
    · grind
    · simp_all
    · rcases En.1 hk with rfl | hk
      · rw [hy] at hz;cases hz;exact (QSt hx.agr sy.agr hap).trans k6.shows
      grind
    · grind
    · have h1 : (Gw.merge x y).heap[b]? = x.w.heap[b]? := by
        rw [Qet];rcases Nat.lt_or_ge b x.w.heap.size with hlt | hge
        · by_cases hF:x.F b
          · simp [hF]
          · have hyF:¬ y.F b:=fun e=>hF (hb i (by simp) y hy e)
            rw [hx.agr.hid b hF hlt];grind
        simp_all
      grind
end

def JY (C:Nat) (cs:Array Value) (et:TypeId) (w:World):World:={ w with heap:=w.heap.setIfInBounds C (.cells cs et (0,0)) }
theorem Qgy {C b:Nat} {cs:Array Value} {et:TypeId} {w:World} (h:b≠C):(JY C cs et w).heap[b]?=w.heap[b]?:=Eb (Ne.symm h)
theorem Qup {C:Nat} {cs:Array Value} {et:TypeId} {w:World} (h:C < w.heap.size):(JY C cs et w).heap[C]?=some (.cells cs et (0,0)):=by simp [JY,h]
theorem Quq {C:Nat} {cs:Array Value} {et:TypeId} {w:World}:(JY C cs et w).heap.size=w.heap.size:=by simp [JY]
def ShG (Sh:Loc->Prop) (Wg:Nat):Loc->Prop:=fun l=>Sh l\/∃ ad,l=.cell ad/\ad.block=Wg
structure FullG (C N Low:Nat) (cs0:Array Value) (O:List (Nat×(Value->World->Prop))) (w1 w':World) (cs:Array Value):Prop where
 more:More w1 w'
 low:∀ b,b < Low->b≠C->w'.heap[b]?=w1.heap[b]?
 size:cs.size=N
 full:∀ p∈O,∃ v xw,cs[p.1]?=some v/\p.2 v xw/\Shows xw w'
 rest:∀ k,(∀ p∈O,p.1≠k)->cs[k]?=cs0[k]?

section
variable {P:Program} {Sh:Loc->Prop} {ty:TypeId} {Wg C N:Nat} {et:TypeId} {cs0:Array Value} {Fs:Nat->Prop} {Ws:World} {pd:Nat} {rg:Rg} {bl:Bool} {d0:Nat} {Z:Nat->Prop} {orig:Nat->Option Obj}
variable {O:List (Nat×(Value->World->Prop))} {gm:Goroutine} {w:World} {vs:Nat->Option View} {st st':Nat->Ph} {slot:Nat->Nat} {ph:Nat->Value->World->Prop} {A:List Nat} {τ:List Tr} {cs:Array Value} {Q:Nat->Addr->Prop}
variable {gs:Array Goroutine} {W W':World} {t:Trace} {n:Nat} {S:Goroutine->World->Prop}

theorem Ph.cases {p:Ph} (h1:p.pre=false) (h2:p.late=false):p=.quit\/p=.gone:=by
 cases p with
 | priv=>cases h1
 | quit=>simp
 | gone=>simp
 | lib s=>cases s<;>simp_all [Ph.pre,Ph.late]
def Ph.acq:Ph->Ph
 | .priv=>.priv
 | .lib .A=>.lib .A
 | _=>.gone
theorem Ph.acq_lim (p:Ph):p.acq.lim=p.lim.acq:=by
 cases p with
 | lib s=>cases s<;>rfl
 | _=>rfl
theorem CfgG.acquire {g':Goroutine} (h:CfgG P Sh ty Wg C N et cs0 Fs Ws pd .fin false 0 Z orig O gm w vs st slot ph A τ cs Q gs W t) (hq:stepG P true gm W=.go g' W #[Go.ConcR.mk (.acquire (stA Wg))]) (hE:g'.status=.running) (sl:Option (Nat×Nat)) :
    ∃ (ops:Trace) (gs':Array Goroutine),runT P (crowd gs W sl) 0=(.next (crowd gs' W sl),ops)/\CfgG P Sh ty Wg C N et cs0 Fs Ws pd .acq false 0 Z orig O g' w vs (fun i=>(st i).acq) slot ph A τ cs Q gs' W (t++ops):=by
  obtain ⟨k1,k2,k3,k4,k5⟩:=h.grp;have hin:0 < gs.size:=(Ea.1 h.g0).1;obtain ⟨ops,gs',hrun,h2⟩:=h.mlib (bl':=false) (rg':=.fin) (pd':=pd) sl hq hE (fun e=>by cases e) (h.pg.mark (m:=.acquire (stA Wg)) hin rfl h.pg.gl (by simp)) ⟨rfl,rfl,rfl,rfl⟩ (fun _ _=>rfl) ⟨k1,k2,k3,k4,k5⟩;have hacq:=h.pg.acq hin h.dm gm.frame.fn gm.frame.place;have hrun':=runT_crowd_go (P:=P) (sl:=sl) (i:=0) h.g0 (show stepG P (0 == 0) (Yg false gm) W=_ from hq);have hops:ops=MemOp.ofEvents 0 gm.frame.fn gm.frame.place #[Go.ConcR.mk (.acquire (stA Wg))]:=by
    rw [hrun'] at hrun;exact ((Prod.mk.inj hrun).2).symm
  have et1:t++ops=t++#[{ g:=0,fn:=gm.frame.fn,pos:=gm.frame.place,act:=.mark (.acquire (stA Wg)) }]:=by rw [hops,QDi];rfl
  have hgs:gs'.size=gs.size:=by have:=h2.len;rw [h.len] at this;omega
  rw [<-et1] at hacq;have hquit:∀ i∈A,st i=.quit\/st i=.gone:=fun i hi=>Ph.cases (by
    simp_all) (k5 i hi)
  refine ⟨ops, gs', hrun, ⟨by rw [hgs]; have e : (fun i => ((st i).acq).lim) = fun j => ((st j).lim).acq := funext fun j => Ph.acq_lim _
                              simp_all,h2.main,by rw [Ph.acq_lim,h.m0];rfl,h2.dm,h2.g0,h2.run,h2.off,h2.len,h2.nod,h2.act,h2.posts,h2.sln,h2.slN,fun i gi hi hgi=>?_,h2.q,h2.q0,h2.row,h2.rsz,h2.rold,h2.orig,h2.bas,h2.size,h2.keep,h2.same,h2.wgs,h2.cF,⟨k1,k3,rfl,fun i hi=>by dsimp only;rcases hquit i hi with e | e<;>rw [e]<;>rfl⟩⟩⟩
  obtain ⟨r,h3,h4⟩:=h2.oth i gi hi hgi;refine ⟨r,h3,?_⟩;cases hv:vs i with
  | none=>rw [hv] at h4;exact h4
  | some y =>
    rw [hv] at h4;rcases hquit i ((h.act i).2 ⟨hi,by rw [hv];rfl⟩) with e | e<;>(rw [e] at h4 ⊢;exact h4)
theorem CfgG.join (hSh:∀ (l:Loc) (ad:Addr),AtL l ad->Sh l->ad.block < Ws.heap.size/\¬ Fs ad.block) (h:CfgG P Sh ty Wg C N et cs0 Fs Ws pd .acq false 0 Z orig O gm w vs st slot ph A τ cs Q gs W t)
  (hS:∀ w' cs,FullG C N Ws.heap.size cs0 O w w' cs->S gm (thaw Z orig (JY C cs et w'))):Fin0 P (ShG Sh Wg) S Fs Ws gs W t:=by
 obtain ⟨k1,k2,k3,k4⟩:=h.grp;have hin:0 < gs.size:=(Ea.1 h.g0).1;obtain ⟨F,h0,hF⟩:=h.main;have hAs:∀ i∈A,i≠0/\(vs i).isSome=true/\(st i).lim=.zero:=fun i hi=>by
  obtain ⟨a1,a2⟩:=(h.act i).1 hi;exact ⟨a1,a2,by rw [k4 i hi];rfl⟩
 obtain ⟨Q',vs',x',p1,p2,p3,p4,p5,p6,p7,p8,p9,p10⟩:=QCe (lim:=fun j=>(st j).lim) h.m0 A Q vs ⟨F,Z,w⟩ h.pg h0 h.nod hAs;have hs:=(p1.seen 0 x' p2).2;have hno:∀ j,j≠0->vs' j=none:=fun j hj=>by
  by_cases hA:j∈A
  ·grind
  ·rw [p4 j hA hj];cases hv:vs j with
   | none=>rfl
   | some y=>exact absurd ((h.act j).2 ⟨hj,by rw [hv];rfl⟩) hA
 have hk0:∀ e,(∃ j,(vs' j).isSome=true/\Kn (stA Wg) t ((st j).lim) j e)->Knows t 0 e:=fun e ⟨j,a1,a2⟩=>by
  by_cases hj:j=0
  ·subst hj;exact a2.no h.m0
  simp_all
 have hFx:∀ b,x'.F b->Fs b\/Ws.heap.size<=b:=fun b hb=>by
  rcases p8 b hb with a | ⟨i,hi,y,hy,a⟩
  ·exact h.bas 0 _ h0 b a
  ·exact h.bas i y hy b a
 have hCx:¬ x'.F C:=fun e=>hs.out C (.inr rfl) e
 have hZx:∀ b,Z b->x'.F b:=fun b hb=>p9 b ((h.pg.seen 0 _ h0).2.agr.zf b hb)
 have hZ':∀ b,x'.Z b↔Z b:=fun b=>by rw [p5]
 have hsz:C < x'.w.heap.size:=by rw [<-hs.agr.size];exact h.pg.cl
 have hfull:FullG C N Ws.heap.size cs0 O w x'.w cs:=by
  refine ⟨p6,fun b hb hbC=>p10 b fun i hi y hy hyb=>?_,h.rsz,fun p hp=>?_,fun k hk=>h.rold k fun i hi=>?_⟩
  ·rcases h.bas i y hy b hyb with a | a
   ·simp_all
   ·omega
  ·rw [h.posts] at hp;obtain ⟨i,hi,rfl⟩:=Ew.1 hp;obtain ⟨hi0,his⟩:=(h.act i).1 hi;obtain ⟨y,hy⟩:=Ek.1 his;have hlt:=(h.pg.seen i y hy).1;obtain ⟨r,_,hr⟩:=h.oth i _ hi0 (Ec hlt);rw [hy,k4 i hi] at hr;obtain ⟨_,u,a1,a2⟩:=hr;exact ⟨u,y.w,a1,a2 _ (Ee _),p7 i hi y hy⟩
  ·exact hk (slot i,ph i) (by rw [h.posts];grind)
 have hqe:∀ i:Nat,∃ k,∀ gi,i≠0->gs[i]?=some gi->QuitsD P k (Deaf t i) gi:=fun i=>by
  by_cases hi:i≠0/\∃ gi,gs[i]?=some gi
  ·obtain ⟨hi0,gi,hgi⟩:=hi;obtain ⟨r,_,hr⟩:=h.oth i gi hi0 hgi;cases hv:vs i with
   | none =>
    rw [hv] at hr;obtain ⟨k,_,hk⟩:=hr;exact ⟨k,fun gi' _ hgi'=>by simp_all⟩
   | some y =>
    rw [hv,k4 i ((h.act i).2 ⟨hi0,by rw [hv];rfl⟩)] at hr;obtain ⟨⟨k,_,hk⟩,_⟩:=hr;exact ⟨k,fun gi' _ hgi'=>by simp_all⟩
  simp_all
 refine ⟨gm,fun b=>x'.F b\/b=C,_,fun i=>Classical.choose (hqe i),h.g0,hS x'.w cs hfull,⟨?_,?_,fun b hb=>?_,fun l ad hat had hsh=>?_,fun l ad hat hsh=>?_,⟨p1.clean,fun e a ha hm=>?_,fun e g hge hne hc=>?_,h.dm,p1.low⟩,⟨fun i gi hi hgi=>Classical.choose_spec (hqe i) gi (by omega) hgi,p1.above⟩⟩,⟨fun b hb=>?_,fun b hb=>?_,h.keep,h.size,h.same⟩⟩
 ·refine ⟨hs.agr.tape,hs.agr.drawn,hs.agr.os,hs.agr.output,by rw [Qvz,Quq];exact hs.agr.size,fun b hb _=>?_,fun b _ h=>h.elim,fun b hb hlt=>?_,fun b h=>h.elim⟩
  ·rw [Qhe];by_cases hbC:b=C
   ·subst hbC;have hz:¬ Z b:=fun hz=>hCx (hZx b hz)
    rw [Qup hsz,h.row];simp [hz]
   ·have hb:x'.F b:=hb.resolve_right hbC;have hlt:=hs.bnd b hb;have hlt':b < x'.w.heap.size:=by rw [<-hs.agr.size];exact hlt
    rw [Qgy hbC];by_cases hz:Z b
    ·rw [Ec hlt'];simp only [Eo,if_pos hz];have:=h.orig b hz
     grind
    ·rw [hs.agr.own b hb (fun e=>hz ((hZ' b).1 e))];simp [hz]
  ·rw [Qvz,Quq] at hlt;have hbC:b≠C:=fun e=>hb (.inr e)
   have hb':¬ x'.F b:=fun e=>hb (.inl e)
   have hz:¬ Z b:=fun hz=>hb' (hZx b hz)
   rw [Qhe,Qgy hbC,hs.agr.hid b hb' hlt];simp [hz]
 ·intro b a u e;rw [Qhe] at e;by_cases hbC:b=C
  ·grind [Qup]
  ·rw [Qgy hbC] at e;cases hb:x'.w.heap[b]? with
   | none=>simp_all
   | some o =>
    rw [hb] at e;simp only [Eo,Ex.injEq] at e;by_cases hz:Z b
    ·rw [if_pos hz] at e;obtain ⟨cs1,e1,fz,h1,h2⟩:=hs.agr.shr b (hZx b hz) ((hZ' b).2 hz);rw [<-h.orig b hz,h2] at e;cases e
    ·rw [if_neg hz] at e;subst e;exact hs.nov b a u hb
 ·rcases hb with hb | rfl
  ·exact hs.bnd b hb
  ·exact h.pg.cl
 ·rcases hsh with hsh | ⟨ad',e,hw⟩
  ·obtain ⟨a1,a2⟩:=hSh _ ad hat hsh;rcases had with had | had
   ·grind
   ·rw [had] at a2;exact a2 h.cF
  ·subst e;cases hat;rcases had with had | had
   ·rw [hw] at had;exact hs.out _ (.inl rfl) had
   ·exact h.pg.gc (hw.symm.trans had)
 ·rcases hsh with hsh | ⟨ad',e,hw⟩
  ·exact Ej (hSh _ ad hat hsh).1 h.size
  ·subst e;cases hat;rw [hw];exact h.pg.gl
 ·rcases p1.known e a ha hm with a1 | a1 | ⟨ad,a1,a2,a3⟩ | a1
  ·grind
  ·exact .inr ⟨.inl a1.1,a1.2⟩
  ·exact .inr ⟨.inr ⟨ad,a1,a2⟩,a3⟩
  grind
 ·rcases p1.over e g hge hne hc with a1 | a1
  ·exact a1
  ·exact QOj (hk0 e a1) hge hne
 ·grind
 ·rcases hb with hb | rfl
  ·grind
  ·exact .inl h.cF
end
end Go.Gw

end
section
namespace Go.Gw
open Go Go.Conc
open Go.ConcR (KK wgBlock WgAt stA smA rd wr mk)
def BS.rg:BS->Rg
 | .X | .S=>.reg
 | .F | .E | .Q=>.fin
 | .Z=>.acq
 | _=>.un
def BS.deaf:BS->Nat
 | .K | .Q | .Z=>0
 | _=>1
def BS.ok (NA idx m cnt:Nat) (bl:Bool):BS->Prop
 | .K | .R=>2 * m+2 * NA+1<=idx
 | .Cs v=>v≠0/\2 * m<=idx/\(v≠cnt->2 * m+2 * NA+1<=idx)
 | .S=>2 * m+(if bl then 0 else 1)<=idx
 | _=>2 * m<=idx
section
variable {P:Program} {Sh:Loc->Prop} {ty:TypeId} {Wg C N:Nat} {et:TypeId} {cs0:Array Value} {Fs:Nat->Prop} {Ws:World} {pd:Nat} {rg:Rg} {bl:Bool} {d0:Nat} {Z:Nat->Prop} {orig:Nat->Option Obj}
variable {O:List (Nat×(Value->World->Prop))} {gm:Goroutine} {w:World} {vs:Nat->Option View} {st st':Nat->Ph} {slot:Nat->Nat} {ph:Nat->Value->World->Prop} {A:List Nat} {τ:List Tr} {cs:Array Value} {Q:Nat->Addr->Prop}
variable {gs:Array Goroutine} {W W':World} {t:Trace} {n:Nat} {S:Goroutine->World->Prop}

theorem BS.ok_some {NA idx0 m0 cnt0:Nat} {bl0:Bool} {s:BS} (m cnt:Nat) (bl:Bool) (h:s.ok NA idx0 m0 cnt0 bl0):∃ idx,s.ok NA idx m cnt bl:=by
 refine ⟨2 * m+2 * NA+1,?_⟩;cases s<;>simp only [BS.ok] at h ⊢<;>first | omega | grind | (refine ⟨h.1,by omega,fun _=>by omega⟩)
theorem MW.running {An:Goroutine->Prop} {gE:Goroutine} (hA:∀ g,An g->g.status=.running) (hE:gE.status=.running) {m:Nat} {s:BS} {g:Goroutine} (h:MW P ty Wg An gE m s g):g.status=.running:=by
 have key:(s=.Z/\g=gE)\/(s=.R/\An g)->g.status=.running:=fun h=>by
  rcases h with h | h
  ·rw [h.2];exact hE
  ·exact hA g h.2
 cases m with
 | zero=>exact key h
 | succ m =>
  rcases h with h | h
  ·exact key h
  ·exact h.1
theorem CfgG.someone (h:CfgG P Sh ty Wg C N et cs0 Fs Ws pd .reg true d0 Z orig O gm w vs st slot ph A τ cs Q gs W t):∃ (i:Nat) (gi:Goroutine),gs[i]?=some gi/\gi.status=.running:=by
 have key:∀ i∈A,(st i).pre=true\/(st i).late=true->∃ (i:Nat) (gi:Goroutine),gs[i]?=some gi/\gi.status=.running:=fun i hi hne=>by
  obtain ⟨hi0,his⟩:=(h.act i).1 hi;obtain ⟨y,hy⟩:=Ek.1 his;have hlt:=(h.pg.seen i y hy).1;obtain ⟨r,_,hr⟩:=h.oth i _ hi0 (Ec hlt);rw [hy] at hr;refine ⟨i,_,Ec hlt,?_⟩;cases hst:st i with
  | quit=>rw [hst] at hne;trivial
  | gone=>rw [hst] at hne;trivial
  | priv=>rw [hst] at hr;exact hr.2.running
  | lib s=>rw [hst] at hr;obtain ⟨⟨m,_,hl,_⟩,_⟩:=hr;exact hl.running
 obtain ⟨_,hh⟩:=h.grp;rcases hh with ⟨k1,_⟩ | ⟨_,i,hi,k2,_⟩ | ⟨_,k2,_⟩
 ·grind [Et]
 ·exact key i hi (.inr (by rcases k2 with ⟨k2 | k2,_⟩ | ⟨k2,_⟩<;>rw [k2]<;>rfl))
 ·cases k2

theorem Q4z {An:Goroutine->Prop} {gE:Goroutine} (hN:N+1 < 2147483647) (hSh:∀ (l:Loc) (ad:Addr),AtL l ad->Sh l->ad.block < Ws.heap.size/\¬ Fs ad.block) (hgA:∀ g,An g->g.status=.running) (hE:gE.status=.running) {NA:Nat} (hA:∀ g,An g->MW P ty Wg An gE NA .L g)
    (hS:∀ w1 w' cs,Rel w w1->FullG C N Ws.heap.size cs0 O w1 w' cs->S gE (thaw Z orig (JY C cs et w'))) :
    ∀ τ idx m s g bl,MW P ty Wg An gE m s g->(bl=true->s=.S)->∀ w1,Rel w w1->∀ vs st ph slot A cs Q gs W sl t,BS.ok NA idx m (A.countP fun i=>(st i).pre) bl s ->
      CfgG P Sh ty Wg C N et cs0 Fs Ws 0 s.rg bl s.deaf Z orig O g w1 vs st slot ph A τ cs Q gs W t->Reach P (Fin0 P (ShG Sh Wg) S Fs Ws) gs W sl t:=by
  intro τ
  induction Qhp τ with
  | intro τ _ ih1 =>
    intro idx
    induction idx using Nat.strongRecOn with
    | ind idx ih2 =>
      intro m s g bl hm hbs w1 hr vs st ph slot A cs Q gs W sl t hok h
      -- at the loop's head
      by_cases hAt:s=.R/\An g
      · obtain ⟨rfl,hAg⟩:=hAt;have hbl:bl=false:=by simp_all
        subst hbl;simp only [BS.ok] at hok;exact ih2 (2 * NA) (by omega) NA .L g false (hA g hAg) (fun e=>by cases e) w1 hr vs st ph slot A cs Q gs W sl t (by simp [BS.ok]) h
      by_cases hZt:s=.Z/\g=gE
      · obtain ⟨rfl,rfl⟩:=hZt;have hbl:bl=false:=by simp_all
        subst hbl;exact Reach.here (h.join hSh fun w' cs hf=>hS _ w' cs hr hf)
      have hnAt:¬ ((s=.Z/\g=gE)\/(s=.R/\An g)):=fun e=>e.elim hZt hAt
      cases m with
      | zero=>trivial
      | succ m =>
        obtain ⟨hrun,hm1⟩:=hm.resolve_left hnAt;have hsome:∃ (i:Nat) (gi:Goroutine),gs[i]?=some gi/\gi.status=.running:=by
          cases bl with
          | false=>exact ⟨0,g,h.g0,hrun⟩
          | true=>have:=hbs rfl;subst this;exact h.someone
        obtain ⟨i,gi,d,sl',hgi,hrg,hst,h'⟩:=h.pick hsome sl;have hr2:=hr.trans (JX w1 d);by_cases hi0:i=0
        · subst hi0;have hbl:bl=false:=by
            cases bl with
            | false=>rfl
            | true=>rw [h'.g0] at hgi;grind [Yg]
          subst hbl;have hlive:=h'.grp.live;have hin:0 < gs.size:=(Ea.1 h'.g0).1;have hc:=h'.cnt
          have go : ∀ {g' : Goroutine} {W' : World} {es : Array Event} {s' : BS} {m' : Nat} {bl' : Bool} (idx' : Nat), idx' < idx -> stepG P true g (W.at d) = .go (Yg bl' g') W' es -> MW P ty Wg An gE m' s' g' -> (bl' = true -> s' = .S /\ g'.offers = none) -> PG Sh (stA Wg) C Q (fun j => (st j).lim) (Qcv vs d) gs.size W' (t ++ MemOp.ofEvents 0 g.frame.fn g.frame.place es) ->
              (W'.tape=(W.at d).tape/\W'.os=(W.at d).os/\W'.output=(W.at d).output/\W'.heap.size=(W.at d).heap.size)->(∀ b,b≠Wg->W'.heap[b]?=(W.at d).heap[b]?)->GrpOk ty Wg s'.rg 0 bl' st A W'->deafBehind s.deaf es=s'.deaf->BS.ok NA idx' m' (A.countP fun i=>(st i).pre) bl' s'->Reach P (Fin0 P (ShG Sh Wg) S Fs Ws) gs W sl t:=by
            intro g' W' es s' m' bl' idx' hlt hs hm' hb' hpg hW hblk hgrp hd hok';obtain ⟨ops,gs',h1,h2⟩:=h'.mlib (bl':=bl') sl' hs (hm'.running hgA hE) (fun e=>(hb' e).2) hpg hW hblk hgrp
            grind [Ed]
          have same:∀ {s':BS},s'.rg=s.rg->GrpOk ty Wg s'.rg 0 false st A (W.at d):=fun e=>by rw [e];exact h'.grp
          rcases hm1 with hm1 | hm1
          · obtain ⟨g',hs,hm'⟩:=hm1 _ hlive;refine go (s':=s) (bl':=false) (idx - 1) ?_ hs hm' (fun e=>by cases e) (by rw [Qnj,Ef];exact h'.pg) ⟨rfl,rfl,rfl,rfl⟩ (fun _ _=>rfl) h'.grp rfl ?_
            · cases s<;>simp only [BS.ok] at hok<;>first | omega | (simp at hok;omega)
            · cases s<;>simp only [BS.ok] at hok ⊢<;>first | omega | (simp at hok ⊢;omega) | exact ⟨hok.1,by omega,fun hv=>by have:=hok.2.2 hv;omega⟩
          · cases s with
            | K =>
              obtain ⟨g',hs,hm'⟩:=hm1;simp only [BS.ok] at hok;exact go (s':=.R) (bl':=false) (idx - 1) (by omega) (hs _ hlive) hm' (fun e=>by cases e) (h'.pg.mark hin rfl trivial (by simp)) ⟨rfl,rfl,rfl,rfl⟩ (fun _ _=>rfl) (same rfl) rfl (by grind [BS.ok])
            | L =>
              obtain ⟨k1,k2,k3⟩:=h'.grp;have k1:WgAt ty Wg (W.at d) (((A.countP (fun i=>(st i).pre):Nat):Int) * KK) 0:=by omega
              obtain ⟨g',hs,hz,hnz⟩:=hm1 (A.countP fun i=>(st i).pre) (by omega);simp only [BS.ok] at hok;have hpg:=h'.pg.atom1 (fn:=g.frame.fn) (pos:=g.frame.place) hin (by rw [h'.dm];trivial) (a:=stA Wg) rfl false;by_cases hv:A.countP (fun i=>(st i).pre)=0
              · exact go (s':=.E) (bl':=false) (idx - 1) (by omega) (hs _ k1) (hz hv) (fun e=>by cases e) hpg ⟨rfl,rfl,rfl,rfl⟩ (fun _ _=>rfl) ⟨rfl,hv,by simp_all,rfl,k2⟩ (Qeh _ (.inl rfl)) (by grind [BS.ok])
              · exact go (s':=.Cs (A.countP fun i=>(st i).pre)) (bl':=false) (idx - 1) (by omega) (hs _ k1) (hnz hv) (fun e=>by cases e) hpg ⟨rfl,rfl,rfl,rfl⟩ (fun _ _=>rfl) (same rfl) (Qeh _ (.inl rfl)) ⟨hv,by omega,fun e=>absurd rfl e⟩
            | Cs v =>
              obtain ⟨k1,k2,k3⟩:=h'.grp;have k1:WgAt ty Wg (W.at d) (((A.countP (fun i=>(st i).pre):Nat):Int) * KK) 0:=by omega
              obtain ⟨⟨g1,hs1,hm2⟩,hmiss⟩:=hm1;simp only [BS.ok] at hok;by_cases hv:v=A.countP fun i=>(st i).pre
              · have hpos:0 < A.countP (fun i=>(st i).pre):=by omega
                subst hv;exact go (s':=.X) (bl':=false) (idx - 1) (by omega) (hs1 _ k1) hm2 (fun e=>by cases e) ((h'.pg.atom2 hin (by rw [h'.dm];exact Nat.zero_lt_one) rfl).set (.inl rfl) _) ⟨rfl,rfl,rfl,Qan⟩ (fun b hb=>Qbg b hb) ⟨rfl,.inl ⟨hpos,k1.setSt _,k2⟩⟩ (Qeh _ (.inr (.inr rfl))) (by grind [BS.ok])
              · have:=hok.2.2 hv;obtain ⟨g2,hs2,hm3⟩:=hmiss (A.countP fun i=>(st i).pre) (Ne.symm hv) (by omega);exact go (s':=.R) (bl':=false) (idx - 1) (by omega) (hs2 _ k1) hm3 (fun e=>by cases e) (h'.pg.atom1 hin (by rw [h'.dm];exact Nat.zero_lt_one) rfl false) ⟨rfl,rfl,rfl,rfl⟩ (fun _ _=>rfl) (same rfl) (Qeh _ (.inl rfl)) (by grind [BS.ok])
            | R=>grind
            | X =>
              obtain ⟨g',hs,hm'⟩:=hm1;simp only [BS.ok] at hok;exact go (s':=.S) (bl':=false) (idx - 1) (by omega) (hs _ hlive) hm' (fun e=>by cases e) (h'.pg.said0 hin rfl).2 ⟨rfl,rfl,rfl,rfl⟩ (fun _ _=>rfl) (same rfl) rfl (by grind [BS.ok])
            | S =>
              obtain ⟨ho,hwait,g',hs,hm'⟩:=hm1;simp [BS.ok] at hok;obtain ⟨k0,hh⟩:=h'.grp;have hblock:(∃ st',WgAt ty Wg (W.at d) st' 0)->Reach P (Fin0 P (ShG Sh Wg) S Fs Ws) gs W sl t:=fun ⟨st0,hw⟩ =>
                go (s':=.S) (bl':=true) (m':=m+1) (idx - 1) (by omega) (hwait _ st0 hw) hm (fun _=>⟨rfl,ho⟩) (by rw [Qnj,Ef];exact h'.pg) ⟨rfl,rfl,rfl,rfl⟩ (fun _ _=>rfl) ⟨rfl,by
                  rcases hh with k | k | ⟨_,_,k,_⟩
                  · exact .inl k
                  · simp_all
                  · have:=(hw.unique k).2;cases this⟩ rfl (by grind [BS.ok])
              rcases hh with ⟨_,k2,_⟩ | ⟨_,i,_,k2,_⟩ | ⟨k1,_,k2,k3⟩
              · grind
              · grind
              · exact go (s':=.F) (bl':=false) (idx - 1) (by omega) (hs _ k2) hm' (fun e=>by cases e) ((h'.pg.sem hin rfl).set (.inl rfl) _) ⟨rfl,rfl,rfl,Qan⟩ (fun b hb=>Qbg b hb) ⟨rfl,k1,k2.setSm 0,rfl,k3⟩ (Qyk _ _) (by grind [BS.ok])
            | F =>
              obtain ⟨g',hs,hm'⟩:=hm1;simp only [BS.ok] at hok;exact go (s':=.E) (bl':=false) (idx - 1) (by omega) (hs _ h'.grp.2.2.1) hm' (fun e=>by cases e) (h'.pg.atom1 hin (by rw [h'.dm];trivial) rfl false) ⟨rfl,rfl,rfl,rfl⟩ (fun _ _=>rfl) (same rfl) (Qeh _ (.inl rfl)) (by grind [BS.ok])
            | E =>
              obtain ⟨g',hs,hm'⟩:=hm1;simp only [BS.ok] at hok;exact go (s':=.Q) (bl':=false) (idx - 1) (by omega) (hs _ hlive) hm' (fun e=>by cases e) (h'.pg.mark hin rfl trivial (by simp)) ⟨rfl,rfl,rfl,rfl⟩ (fun _ _=>rfl) (same rfl) rfl (by grind [BS.ok])
            | Q =>
              obtain ⟨g',hs,hm'⟩:=hm1;simp only [BS.ok] at hok;obtain ⟨ops,gs',h1,h2⟩:=h'.acquire (hs _ hlive) (hm'.running hgA hE) sl';exact Ed (hst.trans h1) (ih2 (idx - 1) (by omega) m .Z g' false hm' (fun e=>by cases e) _ hr2 _ _ _ _ _ _ _ _ _ _ _ (by grind [BS.ok]) h2)
            | Z=>grind
        · obtain ⟨ops,gs',W',vs',st',τ',cs',bl',w',h1,h2,h3,h4,h5⟩:=h'.other hN (Ey _) hgi hi0 hrg sl';obtain ⟨idx',hok'⟩:=BS.ok_some (s:=s) (idx0:=idx) (m0:=m+1) (cnt0:=A.countP fun i=>(st i).pre) (bl0:=bl) (m+1) (A.countP fun i=>(st' i).pre) bl' hok;exact Ed (hst.trans h1) (ih1 τ' h2 idx' (m+1) s g bl' hm (fun e=>hbs (h4 e)) w' (hr2.trans h3) _ _ _ _ _ _ _ _ _ _ _ hok' h5)
end
end Go.Gw

end
section
namespace Go.Gw
open Go Go.Conc
open Go.ConcR (KK wgBlock WgAt stA smA rd wr mk)
open Go.ConcN (sumTo)

inductive QW (P:Program) (ty:TypeId) (Wg C N Low:Nat) (et:TypeId) (cs0:Array Value) (S:Goroutine->World->Prop):Nat->(Nat->Prop)->(Nat->Option Obj)->List (Nat×(Value->World->Prop))->Goroutine->World->Prop
  | step {pd : Nat} {Z : Nat -> Prop} {orig : Nat -> Option Obj} {O : List (Nat × (Value -> World -> Prop))} {g : Goroutine} {w : World} (nx : World -> Goroutine × World) : g.status = .running -> (∀ w1, Rel w w1 -> JQ P true Z g w1 (nx w1).1 (nx w1).2) ->
      (∀ w1,Rel w w1->QW P ty Wg C N Low et cs0 S pd Z orig O (nx w1).1 (nx w1).2)->QW P ty Wg C N Low et cs0 S pd Z orig O g w
  | add {Z:Nat->Prop} {orig:Nat->Option Obj} {O:List (Nat×(Value->World->Prop))} {g:Goroutine} {w:World} (gE:Goroutine) (m:Nat):g.status=.running->MA P ty Wg gE m .K g->(∀ w1,Rel w w1->QW P ty Wg C N Low et cs0 S 1 Z orig O gE w1)->QW P ty Wg C N Low et cs0 S 0 Z orig O g w
  | fork {Z : Nat -> Prop} {orig : Nat -> Option Obj} {O : List (Nat × (Value -> World -> Prop))} {g : Goroutine} {w : World} (g' child : Goroutine) (K : Nat -> Prop) (k : Nat) (φ : Value -> World -> Prop) : g.status = .running -> (∀ W, stepG P true g W = .spawn g' child W #[]) ->
      k < N->(∀ p∈O,p.1≠k)->(∀ w1,Rel w w1->Rows K w1)->(∀ w1,Rel w w1->Wlk (Jw P fun b=>Z b\/K b) (fun g w=>∃ m,Qdw P ty Wg C k φ m g w) child (hid (fun b=>Z b\/K b) (frz K w1))) ->
      (∀ w1,Rel w w1->QW P ty Wg C N Low et cs0 S 0 (fun b=>Z b\/K b) (Qbc Z K w1 orig) (O++[(k,φ)]) g' (frz K w1))->QW P ty Wg C N Low et cs0 S 1 Z orig O g w
  | wait {Z : Nat -> Prop} {orig : Nat -> Option Obj} {O : List (Nat × (Value -> World -> Prop))} {g : Goroutine} {w : World} (An : Goroutine -> Prop) (gE : Goroutine) (m NA : Nat) : g.status = .running -> (∀ g, An g -> g.status = .running) -> gE.status = .running -> MW P ty Wg An gE m .K g -> (∀ g, An g -> MW P ty Wg An gE NA .L g) ->
      (∀ w1 w' cs,Rel w w1->FullG C N Low cs0 O w1 w' cs->S gE (thaw Z orig (JY C cs et w')))->QW P ty Wg C N Low et cs0 S 0 Z orig O g w
theorem QW.running {P:Program} {ty:TypeId} {Wg C N Low:Nat} {et:TypeId} {cs0:Array Value} {S:Goroutine->World->Prop} {pd:Nat} {Z:Nat->Prop} {orig:Nat->Option Obj} {O:List (Nat×(Value->World->Prop))} {g:Goroutine} {w:World} (h:QW P ty Wg C N Low et cs0 S pd Z orig O g w):g.status=.running:=by
 cases h<;>assumption
section
variable {P:Program} {Sh:Loc->Prop} {ty:TypeId} {Wg C N:Nat} {et:TypeId} {cs0:Array Value} {Fs:Nat->Prop} {Ws:World} {pd:Nat} {rg:Rg} {bl:Bool} {d0:Nat} {Z:Nat->Prop} {orig:Nat->Option Obj}
variable {O:List (Nat×(Value->World->Prop))} {gm:Goroutine} {w:World} {vs:Nat->Option View} {st st':Nat->Ph} {slot:Nat->Nat} {ph:Nat->Value->World->Prop} {A:List Nat} {τ:List Tr} {cs:Array Value} {Q:Nat->Addr->Prop}
variable {gs:Array Goroutine} {W W':World} {t:Trace} {n:Nat} {S:Goroutine->World->Prop}

open Classical in
theorem CfgG.fork (h:CfgG P Sh ty Wg C N et cs0 Fs Ws 1 .un false 0 Z orig O gm w vs st slot ph A τ cs Q gs W t) {g' child:Goroutine} {K:Nat->Prop} {k:Nat} {φ:Value->World->Prop} (hst:∀ W,stepG P true gm W=.spawn g' child W #[]) (hk:k < N) (hkO:∀ p∈O,p.1≠k) (hC:Rows K w)
    (hw:Wlk (Jw P fun b=>Z b\/K b) (fun g w=>∃ m,Qdw P ty Wg C k φ m g w) child (hid (fun b=>Z b\/K b) (Gw.frz K w))) (hr:g'.status=.running) (sl:Option (Nat×Nat)) :
    ∃ (ops:Trace) (gs':Array Goroutine) (vs':Nat->Option View) (st':Nat->Ph) (slot':Nat->Nat) (ph':Nat->Value->World->Prop) (A':List Nat) (τ':List Tr) (Q':Nat->Addr->Prop),runT P (crowd gs W sl) 0=(.next (crowd gs' W sl),ops) /\
      CfgG P Sh ty Wg C N et cs0 Fs Ws 0 .un false 0 (fun b=>Z b\/K b) (Qbc Z K w orig) (O++[(k,φ)]) g' (Gw.frz K w) vs' st' slot' ph' A' τ' cs Q' gs' W (t++ops):=by
  obtain ⟨F,h0,hF⟩:=h.main;have hs0:=(h.pg.seen 0 _ h0).2;have hlt:0 < gs.size:=(Ea.1 h.g0).1;obtain ⟨τc,hτc⟩:=WT.of (fun _ _ _ h=>h.1) hw;have hCF:∀ b,K b->F b:=fun b hb=>Classical.byContradiction fun hn=>by
    obtain ⟨cs,e,fz,h1⟩:=hC b hb;rw [hs0.agr.hid b hn (Ea.1 h1).1] at h1;cases h1
  have hrun:=runT_crowd_spawn (P:=P) (sl:=sl) (i:=0) h.g0 (show stepG P (0 == 0) (Yg false gm) W=_ from hst W);have hslk:∀ i∈A,slot i≠k:=fun i hi e=>hkO (slot i,ph i) (by rw [h.posts];grind) e
  have hpi:=h.pg.fork (D:=fun ad=>ad=⟨C,k,none⟩) h0 h.m0 h.dm hCF hC (fun ad e=>by subst e;exact h.q0 _ rfl fun i hi e=>hslk i hi (by cases e;rfl)) gm.frame.fn child.frame.fn gm.frame.place gm.frame.place
  have et1 : t ++ ((MemOp.ofEvents 0 (Yg false gm).frame.fn (Yg false gm).frame.place #[]).push { g := 0, fn := (Yg false gm).frame.fn, pos := (Yg false gm).frame.place, act := .go gs.size } |>.push { g := gs.size, fn := child.frame.fn, pos := (Yg false gm).frame.place, act := .start }) =
      t++#[{ g:=0,fn:=gm.frame.fn,pos:=gm.frame.place,act:=.go gs.size }]++#[{ g:=gs.size,fn:=child.frame.fn,pos:=gm.frame.place,act:=.start }]:=by
    rfl
  have hAn:gs.size∉A:=fun hm=>by
    obtain ⟨_,h2⟩:=(h.act _).1 hm;cases hv:vs gs.size with
    | none=>simp_all
    | some x=>have:=(h.pg.seen _ x hv).1;omega
  have hdeaf:∀ j,Deaf (t++#[{ g:=0,fn:=gm.frame.fn,pos:=gm.frame.place,act:=.go gs.size }]++#[{ g:=gs.size,fn:=child.frame.fn,pos:=gm.frame.place,act:=.start }]) j=Deaf t j:=fun j=>by grind [Qrf,Qrc,Qlf]
  have hsz:((gs.setIfInBounds 0 g').push child).size=gs.size+1:=by simp
  have hlim:(fun i=>((if i=gs.size then Ph.priv else st i):Ph).lim)=fun j=>if j=gs.size then Lv.no else (st j).lim:=funext fun j=>by
    grind [Ph.lim]
  refine ⟨_,_,(fun j=>if j=0 then some ⟨F,fun b=>Z b\/K b,Gw.frz K w⟩ else if j=gs.size then some ⟨fun b=>Z b\/K b,fun b=>Z b\/K b,hid (fun b=>Z b\/K b) (Gw.frz K w)⟩ else vs j),(fun i=>if i=gs.size then .priv else st i),(fun j=>if j=gs.size then k else slot j),(fun j=>if j=gs.size then φ else ph j),A++[gs.size],τ++[τc],
    (fun j ad=>if j=0 then Q 0 ad/\¬ ad=⟨C,k,none⟩ else if j=gs.size then ad=⟨C,k,none⟩ else Q j ad),hrun,?_⟩
  rw [et1];have hnA:∀ i∈A,i≠gs.size:=fun i hi e=>hAn (e▸hi)
  have hA0:∀ i∈A,i≠0:=fun i hi=>((h.act i).1 hi).1
  have hmapk:A.map (fun j=>if j=gs.size then k else slot j)=A.map slot:=List.map_congr_left fun a ha=>by grind
  refine ⟨by simp_all,⟨F,by simp,hF⟩,by rw [if_neg (by omega)];exact h.m0,by rw [hdeaf];exact h.dm,?_,hr,fun e=>(by cases e),by simp [h.len],?_,fun j=>?_,?_,?_,fun i hi=>?_,fun j gj hj hgj=>?_,fun i hi=>?_,fun ad had hno=>?_,h.row,h.rsz,fun l hl=>?_,fun b hb=>?_,fun j y hy b hb=>?_,h.size,h.keep,h.same,h.wgs,h.cF,?_⟩
  · rw [Eu,if_neg (by simp;omega)];simp [hlt,Yg]
  · refine List.nodup_append.2 ⟨h.nod,by simp,fun a ha b hb e=>?_⟩;simp_all
  · rw [Em,h.act j]
    grind
  · rw [List.map_append];congr 1
    · rw [h.posts];simp_all
    · simp
  · rw [List.map_append,hmapk];refine List.nodup_append.2 ⟨h.sln,by simp,fun a ha b hb e=>?_⟩
    grind
  · rcases Em.1 hi with hi | hi
    · rw [if_neg (hnA i hi)];exact h.slN i hi
    simp_all
  · rw [hdeaf];rw [Eu] at hgj;by_cases hjn:j=gs.size
    · subst hjn;rw [if_pos (by simp)] at hgj;cases hgj;refine ⟨τc,by rw [<-h.len];simp,?_⟩;simp only [if_neg hj,if_pos rfl];exact ⟨h.pg.above _ (Eh _),hτc⟩
    · rw [if_neg (by grind),Eb (Ne.symm hj)] at hgj;obtain ⟨r,h1,h2⟩:=h.oth j gj hj hgj
      grind
  · rcases Em.1 hi with hi | hi
    · simp only [if_neg (hA0 i hi),if_neg (hnA i hi)];exact h.q i hi
    grind
  · simp only [if_true];refine ⟨h.q0 ad had fun i hi e=>?_,fun e=>?_⟩
    · grind
    grind
  · refine h.rold l fun i hi=>?_
    grind
  · unfold Qbc;by_cases hz:Z b
    · rw [if_pos hz];exact h.orig b hz
    · rw [if_neg hz];have hKb:=hb.resolve_left hz;exact hs0.agr.own b (hCF b hKb) hz
  · by_cases hj:j=0
    · rw [if_pos hj] at hy;cases hy;exact h.bas 0 _ h0 b hb
    · rw [if_neg hj] at hy;by_cases hjn:j=gs.size
      · rw [if_pos hjn] at hy;cases hy;exact h.bas 0 _ h0 b (hb.elim (hs0.agr.zf b) (hCF b))
      · rw [if_neg hjn] at hy;exact h.bas j y hy b hb
  · obtain ⟨k1,k2,k3⟩:=h.grp;have e1:(A++[gs.size]).countP (fun i=>((if i=gs.size then Ph.priv else st i):Ph).pre)=A.countP (fun i=>(st i).pre)+1:=by
      simp_all [Ph.pre,Ph.priv,Ph,Eg,List.countP_append]
    refine ⟨by simp_all,fun i hi=>?_,rfl⟩;dsimp only;rcases Em.1 hi with hi | hi
    · simp_all
    · have:i=gs.size:=by grind
      rw [if_pos this];rfl

theorem QOi (hN:N+1 < 2147483647) (hSh:∀ (l:Loc) (ad:Addr),AtL l ad->Sh l->ad.block < Ws.heap.size/\¬ Fs ad.block) (h:QW P ty Wg C N Ws.heap.size et cs0 S pd Z orig O gm w) :
  pd<=1->∀ w1,Rel w w1->∀ τ vs st slot ph A cs Q gs W sl t,CfgG P Sh ty Wg C N et cs0 Fs Ws pd .un false 0 Z orig O gm w1 vs st slot ph A τ cs Q gs W t->Reach P (Fin0 P (ShG Sh Wg) S Fs Ws) gs W sl t:=by
 induction h with
 | @step pd Z orig O g w nx hrun hv hn ih =>
  intro hpd w1 hr τ;revert w1
  induction Qhp τ with
  | intro τ _ ih2 =>
   intro w1 hr vs st slot ph A cs Q gs W sl t h;obtain ⟨i,gi,d,sl',hgi,hrg,hst,h'⟩:=h.pick ⟨0,g,h.g0,hrun⟩ sl;have hr2:=hr.trans (JX w1 d);by_cases hi0:i=0
   ·subst hi0;obtain ⟨ops,gs',W',vs',h1,h2⟩:=h'.own (hv _ hr2) (hn _ hr2).running sl'
    grind [Ed,Ee]
   ·obtain ⟨ops,gs',W',vs',st',τ',cs',bl',w',h1,h2,h3,h4,h5⟩:=h'.other hN hpd hgi hi0 hrg sl';have hbl:bl'=false:=by simp_all
    subst hbl;exact Ed (hst.trans h1) (ih2 τ' h2 w' (hr2.trans h3) _ _ _ _ _ _ _ _ _ _ _ h5)
 | @add Z orig O g w gE m hrun hm hn ih =>
  intro _ w1 hr τ vs st slot ph A cs Q gs W sl t h;exact QIu hN (hn w (Ee w)).running (fun w2 hr2 τ vs st ph slot A cs Q gs W sl t h2=>ih w2 hr2 (Eh _) w2 (Ee _) τ vs st slot ph A cs Q gs W sl t h2) m .K g hm τ w1 hr vs st ph slot A cs Q gs W sl t h
 | @fork Z orig O g w g' child K k φ hrun hsp hk hkO hC hw hn ih =>
  intro _ w1 hr τ;revert w1
  induction Qhp τ with
  | intro τ _ ih2 =>
   intro w1 hr vs st slot ph A cs Q gs W sl t h;obtain ⟨i,gi,d,sl',hgi,hrg,hst,h'⟩:=h.pick ⟨0,g,h.g0,hrun⟩ sl;have hr2:=hr.trans (JX w1 d);by_cases hi0:i=0
   ·subst hi0;obtain ⟨ops,gs',vs',st',slot',ph',A',τ',Q',h1,h2⟩:=h'.fork hsp hk hkO (hC _ hr2) (hw _ hr2) (hn _ hr2).running sl';exact Ed (hst.trans h1) (ih _ hr2 (Ey _) _ (Ee _) τ' vs' st' slot' ph' A' cs Q' gs' _ sl' _ h2)
   ·obtain ⟨ops,gs',W',vs',st',τ',cs',bl',w',h1,h2,h3,h4,h5⟩:=h'.other hN (Eh _) hgi hi0 hrg sl';have hbl:bl'=false:=by simp_all
    subst hbl;exact Ed (hst.trans h1) (ih2 τ' h2 w' (hr2.trans h3) _ _ _ _ _ _ _ _ _ _ _ h5)
 | @wait Z orig O g w An gE m NA hrun hgA hE hm hA hS =>
  intro _ w1 hr τ vs st slot ph A cs Q gs W sl t h;exact Q4z hN hSh hgA hE hA hS τ (2 * m+2 * NA+1) m .K g false hm (fun e=>by cases e) w1 hr vs st ph slot A cs Q gs W sl t (by simp [BS.ok]) h
end
end Go.Gw

end
section
namespace Go.Gw
open Go Go.Conc
open Go.ConcR (KK wgBlock WgAt stA smA rd wr mk)
open Go.ConcN (sumTo)
def Jn (C:Nat) (w:World):World:={ w with heap:=w.heap.setIfInBounds C YX }
theorem Qlz {C b:Nat} {w:World} (h:b≠C):(Jn C w).heap[b]?=w.heap[b]?:=Eb (Ne.symm h)
theorem Qzj {C:Nat} {w:World} (h:C < w.heap.size):(Jn C w).heap[C]?=some YX:=by simp [Jn,h]
theorem Qzk {C:Nat} {w:World}:(Jn C w).heap.size=w.heap.size:=by simp [Jn]
section
variable {P:Program} {Sh:Loc->Prop} {F F':Nat->Prop} {w w':World} {gs:Array Goroutine} {W W' W2:World} {t:Trace} {q:Nat->Nat} {g g':Goroutine} {S:Goroutine->World->Prop} {ty et:TypeId} {C:Nat} {cs0:Array Value}

theorem MI.grp (h:MI P Sh F w gs W t q) (h0:gs[0]?=some g) (hr:g'.status=.running) (hC:w.heap[C]?=some (.cells cs0 et (0,0))) :
    CfgG P Sh ty W.heap.size C cs0.size et cs0 F W 0 .un false 0 (fun _=>False) (fun _=>none) [] g' (Jn C { w with heap:=w.heap.push YX }) (fun i=>if i=0 then some ⟨fun b=>F b/\b≠C,fun _=>False,Jn C { w with heap:=w.heap.push YX }⟩ else none)
      (fun _=>.priv) (fun _=>0) (fun _ _ _=>True) [] ((List.range gs.size).map fun i=>nt (q i)) cs0 (fun j ad=>j=0/\ad.block=C) (gs.setIfInBounds 0 g') { W with heap:=W.heap.push (wgBlock ty 0 0) } t:=by
  have hlt:0 < gs.size:=(Ea.1 h0).1;have hCl:C < w.heap.size:=(Ea.1 hC).1;have hFC:F C:=Classical.byContradiction fun hn=>by rw [h.agr.hid C hn hCl] at hC;cases hC
  have hCW:C < W.heap.size:=h.bnd C hFC;have hrow:W.heap[C]?=some (.cells cs0 et (0,0)):=by rw [h.agr.own C hFC (fun e=>e)];exact hC
  have hpush:∀ b,b < W.heap.size->(W.heap.push (wgBlock ty 0 0))[b]?=W.heap[b]?:=fun b hb=>by grind
  have hsz:(Jn C { w with heap:=w.heap.push YX }).heap.size=w.heap.size+1:=by rw [Qzk];simp
  have hget:∀ b,b≠C->b < w.heap.size->(Jn C { w with heap:=w.heap.push YX }).heap[b]?=w.heap[b]?:=fun b hb hl=>by
    rw [Qlz hb]
    grind
  have hagr:Agr (fun b=>F b/\b≠C) (fun _=>False) (Jn C { w with heap:=w.heap.push YX }) { W with heap:=W.heap.push (wgBlock ty 0 0) }:=by
    refine ⟨h.agr.tape,h.agr.drawn,h.agr.os,h.agr.output,by rw [hsz];simp [h.agr.size],fun b hb hz=>?_,fun b _ h=>h.elim,fun b hb hlt=>?_,fun b h=>h.elim⟩
    · have:=h.bnd b hb.1;rw [hget b hb.2 (by rw [<-h.agr.size];exact this)];show (W.heap.push _)[b]?=_;rw [hpush b this];exact h.agr.own b hb.1 hz
    · by_cases hbC:b=C
      · grind [Qzj]
      · rw [hsz] at hlt;rcases Nat.lt_or_ge b w.heap.size with h1 | h1
        · rw [hget b hbC h1];exact h.agr.hid b (fun e=>hb ⟨e,hbC⟩) h1
        · rw [Qlz hbC]
          grind
  have hown:∀ e a ad,touchAt t e=some a->AtL a.loc ad->F ad.block->Knows t 0 e:=fun e a ad ha hl hF=>by
    rcases h.past.known e a ha hl.mem with h1 | h1
    · exact h1
    · exact absurd h1.1 (h.shun _ ad hl hF)
  have hlow:∀ {e a ad},touchAt t e=some a->AtL a.loc ad->ad.block < W.heap.size:=fun {e a ad} ha hl=>by
    obtain ⟨op,ho,hop⟩:=touch_of ha;have:=h.past.seen op (mem_of_getElem? ho);obtain ⟨g,fn,pos,act⟩:=op;cases act with
    | access ev =>
      simp only [MemAct.touch?] at hop;cases hop;simp only [MemAct.low] at this;simp only at hl;generalize ev.loc=l at this hl;cases hl<;>exact this
    | mark m =>
      cases m<;>simp only [MemAct.touch?] at hop<;>first | (cases hop;done) | (cases hop;simp only at hl;cases hl;exact this)
    | _=>trivial
  have hnov:NoView (Jn C { w with heap:=w.heap.push YX }):=fun b a u e=>by
    by_cases hbC:b=C
    · subst hbC;rw [Qzj (by simp;omega)] at e;cases e
    · rw [Qlz hbC] at e;exact (h.nov.rel (QEj w)) b a u e
  refine ⟨⟨fun i x hx=>?_,fun i j x y hij hx hy=>?_,h.past.clean,fun e a ha hm=>?_,fun e a ad ha hl hb=>?_,fun e a ad ha hl hb i hq=>?_,fun i j ad hij hi hj=>hij (hi.1.trans hj.1.symm),fun i ad hq=>by grind,fun e g hge hne hc=>.inl (h.past.over e g hge hne hc),fun j hj=>h.lv.above j (by grind),fun op hop=>?_,fun op hop=>?_,fun i x x0 hx hx0 b hb=>?_,by simp [stA],by simp;omega,by simp [stA];omega⟩,
    ⟨_,rfl,fun b hb hbC=>⟨hb,hbC⟩⟩,rfl,h.past.hears,by simp [hlt,Yg],hr,fun e=>(by cases e),by simp,List.nodup_nil,fun i=>?_,rfl,List.nodup_nil,fun i hi=>(by cases hi),fun i gi hi hgi=>?_,fun i hi=>(by cases hi),fun ad had _=>⟨rfl,had⟩,?_,rfl,fun _ _=>rfl,fun b h=>h.elim,fun i x hx b hb=>?_,by simp,fun b hb _=>hpush b hb,⟨rfl,rfl,rfl⟩,Eh _,hFC,?_⟩
  · by_cases hi:i=0
    · subst hi;rw [if_pos rfl] at hx;cases hx;refine ⟨by grind,hagr,hnov,fun b hb=>by have:=h.bnd b hb.1;simp;omega,fun b hb hF=>?_,fun e a ad ha hl hF _=>hown e a ad ha hl hF.1,fun e a ad ha hl hz=>hz.elim⟩;rcases hb with rfl | rfl
      · have:=h.bnd _ hF.1;simp [stA] at this
      omega
    simp_all
  · simp_all
  · rcases h.past.known e a ha hm with h1 | h1
    · grind
    simp_all
  · grind [stA]
  · have:=hown e a ad ha hl (hb▸hFC);rw [hq.1];exact this
  · exact MemAct.low_mono (by simp) (h.past.seen op hop)
  · intro e;have:=h.past.seen op hop
    grind [MemAct.low,stA]
  · grind
  · simp
  · rw [Eb (Ne.symm hi)] at hgi;have hlti:=(Ea.1 hgi).1;refine ⟨nt (q i),by simp [hlti],?_⟩;rw [if_neg hi];exact ⟨q i,rfl,h.lv.old i gi (by omega) hgi⟩
  · simp_all
  · grind
  · refine ⟨?_,fun i hi=>(by cases hi),rfl⟩;show (W.heap.push (wgBlock ty 0 0))[W.heap.size]?=_;simp

theorem QOh (hrun:g.status=.running) (hC:w.heap[C]?=some (.cells cs0 et (0,0))) (hN:cs0.size+1 < 2147483647) (gn:Nat->Goroutine) (hst:∀ W,stepG P true g W=.go (gn W.heap.size) { W with heap:=W.heap.push (wgBlock ty 0 0) } #[])
  (hQW:∀ Wg w1,Rel w w1->w.heap.size<=Wg->Wg < w1.heap.size->QW P ty Wg C cs0.size Wg et cs0 S 0 (fun _=>False) (fun _=>none) [] (gn Wg) (Jn C w1)) :
  ∀ w1,Rel w w1->(Jm P).Ph g w1 S:=by
 intro w1 hr Sh F gs W sl t q h h0;have hCr:∀ w1,Rel w w1->w1.heap[C]?=some (.cells cs0 et (0,0)):=fun w1 hr=>by rw [hr.block C (Ea.1 hC).1];exact hC
 have key:∀ N w1,Rel w w1->∀ gs W sl t q,sumTo gs.size q<=N->MI P Sh F w1 gs W t q->gs[0]?=some g->Reach P (fun gs' W' t'=>∃ Sh',Fin0 P Sh' S F W gs' W' t') gs W sl t:=by
  intro N;have fin:∀ w1,Rel w w1->∀ gs W sl t q,MI P Sh F w1 gs W t q->gs[0]?=some g->∀ (d:Nat) (sl':Option (Nat×Nat)),stepT P (crowd gs W sl)=runT P (crowd gs (W.at d) sl') 0->Reach P (fun gs' W' t'=>∃ Sh',Fin0 P Sh' S F W gs' W' t') gs W sl t:=by
   intro w1 hr gs W sl t q h h0 d sl' hst';have h':=h.at d;have hr2:=hr.trans (JX w1 d);have hs1:=hr2.size;have hs2:=h'.agr.size;have hQ:=hQW (W.at d).heap.size { w1.at d with heap:=(w1.at d).heap.push YX } (hr2.trans (QEj _)) (by omega) (by simp;omega);have hgr:(gn (W.at d).heap.size).status=.running:=hQ.running;have hrun':=runT_crowd_go (P:=P) (sl:=sl') (i:=0) h0 (show stepG P (0 == 0) g (W.at d)=_ from hst (W.at d));rw [h'.woken h0 hrun,QWv] at hrun';have hc:=h'.grp (ty:=ty) (g':=gn (W.at d).heap.size) h0 hgr (hCr _ hr2);refine Ed (hst'.trans hrun') ?_;simp only [Ef];exact (QOi hN (fun l ad hl hs=>⟨h'.shlt l ad hl hs,fun hF=>h'.shun l ad hl hF hs⟩) hQ (Ey _) _ (Ee _) _ _ _ _ _ _ _ _ _ _ _ _ hc).mono fun gs2 W2 t2 h5=>⟨_,h5.back (Went.at F W d)⟩
  induction N with
  | zero =>
   intro w1 hr gs W sl t q hN h h0;obtain ⟨i,gi,d,sl',hi,hri,hst'⟩:=crowd_pick (P:=P) (w:=W) (sl:=sl) (h.awake h0 hrun) ⟨0,g,h0,hrun⟩;by_cases hi0:i=0
   ·grind
   ·obtain ⟨ops,gs',q',h1,h2,h3,h4⟩:=(h.at d).slip h0 hrun hi hi0 hri sl';omega
  | succ N ihN =>
   intro w1 hr gs W sl t q hN h h0;obtain ⟨i,gi,d,sl',hi,hri,hst'⟩:=crowd_pick (P:=P) (w:=W) (sl:=sl) (h.awake h0 hrun) ⟨0,g,h0,hrun⟩;by_cases hi0:i=0
   ·grind
   ·obtain ⟨ops,gs',q',h1,h2,h3,h4⟩:=(h.at d).slip h0 hrun hi hi0 hri sl';exact Ed (hst'.trans h1) ((ihN _ (hr.trans (JX w1 d)) gs' (W.at d) sl' _ q' (by omega) h4 h2).mono fun gs2 W2 t2 ⟨Sh',h5⟩=>⟨Sh',h5.back (Went.at F W d)⟩)
 exact key _ w1 hr gs W sl t q (Eh _) h h0
theorem QW.of {Wg N Low:Nat} {Z:Nat->Prop} {orig:Nat->Option Obj} {pd:Nat} {O:List (Nat×(Value->World->Prop))} (h:Wlk (Jp P Z) (fun g w=>QW P ty Wg C N Low et cs0 S pd Z orig O g w) g w):QW P ty Wg C N Low et cs0 S pd Z orig O g w:=by
 induction h with
 | stop h=>exact h _ (Ee _)
 | step nx hs h1 h2 ih=>exact .step nx hs h1 ih
 | phase S' hs h1 h2 ih=>exact (h1 _ (Ee _)).elim
end
end Go.Gw

end
section
namespace Go.Gw
open Go Go.Conc Go.Conc.Lib
open Go.ConcR (KK wgBlock WgAt stA smA rd wr mk DC0)
section
variable {P:Program} {ty:TypeId} {Wg:Nat}
theorem Qnm:∀ {n d:Nat} {g:Goroutine},QuitsD P n d g->QuitsD P (n+1) d g
 | 0,_,_,h=>.inl h
 | n+1,_,_,h=>h.elim .inl fun ⟨hs,g',es,hm,hst,hq⟩=>.inr ⟨hs,g',es,hm,hst,Qnm hq⟩
theorem LW.mono1:∀ {m:Nat} {s:Stg} {g:Goroutine},LW P ty Wg m s g->LW P ty Wg (m+1) s g
 | 0,_,_,h=>h.elim
 | m+1,s,g,⟨hr,h⟩=>by
  refine ⟨hr,h.imp (fun h W hW=>?_) fun h=>?_⟩
  ·obtain ⟨g',h1,h2⟩:=h W hW;exact ⟨g',h1,LW.mono1 h2⟩
  ·cases s with
   | A=>obtain ⟨g',h1,h2⟩:=h;exact ⟨g',h1,LW.mono1 h2⟩
   | B=>obtain ⟨g',h1,h2⟩:=h;exact ⟨g',h1,LW.mono1 h2⟩
   | C =>
    intro v wt h1 h2;obtain ⟨g',h3,h4,h5⟩:=h v wt h1 h2;exact ⟨g',h3,fun hc=>LW.mono1 (h4 hc),fun hc=>Qnm (h5 hc)⟩
   | D2=>obtain ⟨g',h1,h2⟩:=h;exact ⟨g',h1,LW.mono1 h2⟩
   | D3=>obtain ⟨g',h1,h2⟩:=h;exact ⟨g',h1,LW.mono1 h2⟩
   | D4=>obtain ⟨h0,g',h1,h2⟩:=h;exact ⟨h0,g',h1,Qnm h2⟩
theorem MA.mono1 {gE:Goroutine}:∀ {m:Nat} {s:AS} {g:Goroutine},MA P ty Wg gE m s g->MA P ty Wg gE (m+1) s g
 | 0,_,_,h=>.inl h
 | m+1,s,g,h=>by
  refine h.imp id fun ⟨hr,h⟩=>⟨hr,h.imp (fun h W hW=>?_) fun h=>?_⟩
  ·obtain ⟨g',h1,h2⟩:=h W hW;exact ⟨g',h1,MA.mono1 h2⟩
  ·cases s with
   | K=>obtain ⟨g',h1,h2⟩:=h;exact ⟨g',h1,MA.mono1 h2⟩
   | P1 =>
    intro v hv;obtain ⟨g',h1,h2⟩:=h v hv;exact ⟨g',h1,MA.mono1 h2⟩
   | P2=>exact h.imp (fun ⟨g',h1,h2⟩=>⟨g',h1,MA.mono1 h2⟩) fun ⟨g',h1,h2⟩=>⟨g',h1,MA.mono1 h2⟩
   | E=>exact h
theorem MW.mono1 {An:Goroutine->Prop} {gE:Goroutine}:∀ {m:Nat} {s:BS} {g:Goroutine},MW P ty Wg An gE m s g->MW P ty Wg An gE (m+1) s g
 | 0,_,_,h=>.inl h
 | m+1,s,g,h=>by
  refine h.imp id fun ⟨hr,h⟩=>⟨hr,h.imp (fun h W hW=>?_) fun h=>?_⟩
  ·obtain ⟨g',h1,h2⟩:=h W hW;exact ⟨g',h1,MW.mono1 h2⟩
  ·cases s with
   | K=>obtain ⟨g',h1,h2⟩:=h;exact ⟨g',h1,MW.mono1 h2⟩
   | L =>
    intro v hv;obtain ⟨g',h1,h2,h3⟩:=h v hv;exact ⟨g',h1,fun e=>MW.mono1 (h2 e),fun e=>MW.mono1 (h3 e)⟩
   | Cs v =>
    obtain ⟨⟨g1,h1,h2⟩,h3⟩:=h;refine ⟨⟨g1,h1,MW.mono1 h2⟩,fun u hu1 hu2=>?_⟩;obtain ⟨g2,h4,h5⟩:=h3 u hu1 hu2;exact ⟨g2,h4,MW.mono1 h5⟩
   | R=>exact h
   | X=>obtain ⟨g',h1,h2⟩:=h;exact ⟨g',h1,MW.mono1 h2⟩
   | S=>obtain ⟨h0,h1,g',h2,h3⟩:=h;exact ⟨h0,h1,g',h2,MW.mono1 h3⟩
   | F=>obtain ⟨g',h1,h2⟩:=h;exact ⟨g',h1,MW.mono1 h2⟩
   | E=>obtain ⟨g',h1,h2⟩:=h;exact ⟨g',h1,MW.mono1 h2⟩
   | Q=>obtain ⟨g',h1,h2⟩:=h;exact ⟨g',h1,MW.mono1 h2⟩
   | Z=>exact h
def RL (ty:TypeId) (Wg:Nat) (w w1:World):Prop:=Live ty Wg w->Live ty Wg w1
theorem rl {w w1:World} (h:Live ty Wg w) (r:RL ty Wg w w1):Live ty Wg w1:=r h
theorem Live.cell0 {w:World} (h:Live ty Wg w):∃ v,w.cell? ⟨Wg,0,none⟩=some v:=let ⟨_,_,x⟩:=h;⟨_,x.cellSt⟩
theorem Live.cell1 {w:World} (h:Live ty Wg w):∃ v,w.cell? ⟨Wg,1,none⟩=some v:=let ⟨_,_,x⟩:=h;⟨_,x.cellSm⟩
theorem YY (ty:TypeId) (Wg:Nat):∃ w,Live ty Wg w:=by
 refine ⟨{ (default:World) with heap:=(Array.replicate Wg YX).push (wgBlock ty 0 0) },0,0,?_⟩;unfold WgAt
 grind
theorem LW.goes {s:Stg} {m:Nat}:∀ {n:Nat} {g:Goroutine} {w:World},Live ty Wg w->Goes P false (RL ty Wg) DC0 (fun g _=>LW P ty Wg m s g) n g w->LW P ty Wg (m+n) s g
 | 0,g,w,hL,h=>h w fun h=>h
 | n+1,g,w,hL,h=>by
  rcases h with h | ⟨hr,h⟩
  ·exact (LW.goes (n:=n) hL (Goes.stop h)).mono1
  ·refine ⟨hr,.inl fun W hW=>?_⟩;have:=h W fun _=>hW
   cases hs:stepG P false g W with
   | go g' w' es =>
    rw [hs] at this;simp only [goes_go] at this;obtain ⟨⟨rfl,rfl⟩,h2⟩:=this;exact ⟨g',rfl,LW.goes hW h2⟩
   | _=>rw [hs] at this;exact this.elim
theorem MA.goes {gE:Goroutine} {s:AS} {m:Nat}:∀ {n:Nat} {g:Goroutine} {w:World},Live ty Wg w->Goes P true (RL ty Wg) DC0 (fun g _=>MA P ty Wg gE m s g) n g w->MA P ty Wg gE (m+n) s g
 | 0,g,w,hL,h=>h w fun h=>h
 | n+1,g,w,hL,h=>by
  rcases h with h | ⟨hr,h⟩
  ·exact (MA.goes (n:=n) hL (Goes.stop h)).mono1
  ·refine .inr ⟨hr,.inl fun W hW=>?_⟩;have:=h W fun _=>hW
   cases hs:stepG P true g W with
   | go g' w' es =>
    rw [hs] at this;simp only [goes_go] at this;obtain ⟨⟨rfl,rfl⟩,h2⟩:=this;exact ⟨g',rfl,MA.goes hW h2⟩
   | _=>rw [hs] at this;exact this.elim
theorem MW.goes {An:Goroutine->Prop} {gE:Goroutine} {s:BS} {m:Nat}:∀ {n:Nat} {g:Goroutine} {w:World},Live ty Wg w->Goes P true (RL ty Wg) DC0 (fun g _=>MW P ty Wg An gE m s g) n g w->MW P ty Wg An gE (m+n) s g
 | 0,g,w,hL,h=>h w fun h=>h
 | n+1,g,w,hL,h=>by
  rcases h with h | ⟨hr,h⟩
  ·exact (MW.goes (n:=n) hL (Goes.stop h)).mono1
  ·refine .inr ⟨hr,.inl fun W hW=>?_⟩;have:=h W fun _=>hW
   cases hs:stepG P true g W with
   | go g' w' es =>
    rw [hs] at this;simp only [goes_go] at this;obtain ⟨⟨rfl,rfl⟩,h2⟩:=this;exact ⟨g',rfl,MW.goes hW h2⟩
   | _=>rw [hs] at this;exact this.elim

variable {m:Nat} {g g':Goroutine}
theorem LW.relA (hs:g.status=.running) (h:∀ W,Live ty Wg W->stepG P false g W=.go g' W #[Go.ConcR.mk (.releaseMerge (stA Wg))]) (k:LW P ty Wg m .B g'):LW P ty Wg (m+1) .A g:=⟨hs,.inr ⟨g',h,k⟩⟩
theorem LW.disB (hs:g.status=.running) (h:∀ W,Live ty Wg W->stepG P false g W=.go g' W #[Go.ConcR.mk .disable]) (k:LW P ty Wg m .C g'):LW P ty Wg (m+1) .B g:=⟨hs,.inr ⟨g',h,k⟩⟩
theorem LW.d2 (hs:g.status=.running) (h:∀ W,WgAt ty Wg W 1 0->stepG P false g W=.go g' W #[rd (stA Wg)]) (k:LW P ty Wg m .D3 g'):LW P ty Wg (m+1) .D2 g:=⟨hs,.inr ⟨g',h,k⟩⟩
theorem LW.d3 (hs:g.status=.running) (h:∀ W,WgAt ty Wg W 1 0->stepG P false g W=.go g' (W.setCell (stA Wg) (.int .u64 0)) #[wr (stA Wg)]) (k:LW P ty Wg m .D4 g'):LW P ty Wg (m+1) .D3 g:=⟨hs,.inr ⟨g',h,k⟩⟩
theorem LW.d4 (hs:g.status=.running) (hm:mayWake P g=true) (h:∀ W,WgAt ty Wg W 0 0->stepG P false g W=.go g' (W.setCell (smA Wg) (.int .u32 1)) (semEvents (smA Wg))) (k:QuitsD P m 1 g'):LW P ty Wg (m+1) .D4 g:=⟨hs,.inr ⟨hm,g',h,k⟩⟩
end
end Go.Gw

end
