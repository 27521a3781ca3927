/- Laws of the walk. Condition: each theorem says its own. -/
import Derived.Test.YteplgmnnkdpmeaaGreatDoorGwWg1
import Derived.Test.YteplgmnnkdpmeaaGreatDoorGwCj7
import Derived.Conc.WgWords
import Derived.Conc.WgGenN
import Derived.Conc.WgGenDone
import Derived.Conc.WgGenWait
set_option linter.unusedVariables false
set_option linter.unusedSimpArgs false
set_option linter.unusedSectionVars false
section
set_option linter.unusedVariables false
namespace Go.Gw
open Go Go.Conc
open Go.ConcR (KK wgBlock WgAt stA smA rd wr mk)
section
variable {Sh:Loc->Prop} {ga:Addr} {C n:Nat} {lim:Nat->Lv} {W:World} {t:Trace}
theorem Shows.trans {a b c:World} (h:Shows a b) (k:Shows b c):Shows a c:=fun x cs e fz hx=>k x cs e fz (h x cs e fz hx)
theorem More.refl (w:World):More w w:=⟨rfl,rfl,rfl,rfl,fun _ _ _=>rfl⟩
theorem More.trans {a b c:World} (h:More a b) (k:More b c):More a c :=
 ⟨k.os.trans h.os,k.tape.trans h.tape,k.output.trans h.output,k.size.trans h.size,fun x hx hj=>by
  have:=h.block x hx hj;rw [<-this];exact k.block x (by rw [h.size];exact hx) (by rw [this];exact hj)⟩
theorem Qwi (hl0:lim 0=.no):∀ (B:List Nat) (Q:Nat->Addr->Prop) (vs:Nat->Option View) (x:View),PG Sh ga C Q lim vs n W t->vs 0=some x->B.Nodup->(∀ i∈B,i≠0/\(vs i).isSome=true/\lim i=.zero) ->
    ∃ (Q':Nat->Addr->Prop) (vs':Nat->Option View) (x':View),PG Sh ga C Q' lim vs' n W t/\vs' 0=some x'/\(∀ i∈B,vs' i=none)/\(∀ j,j∉B->j≠0->vs' j=vs j)/\x'.Z=x.Z/\More x.w x'.w/\(∀ i∈B,∀ y,vs i=some y->Shows y.w x'.w) /\
      (∀ b,x'.F b->x.F b\/∃ i∈B,∃ y,vs i=some y/\y.F b)/\(∀ b,x.F b->x'.F b)/\(∀ b,(∀ i∈B,∀ y,vs i=some y->y.F b->x.F b)->x'.w.heap[b]?=x.w.heap[b]?)
  | [],Q,vs,x,h,h0,_,_=>⟨Q,vs,x,h,h0,fun i hi=>(by cases hi),fun _ _ _=>rfl,rfl,More.refl _,fun i hi=>(by cases hi),fun b hb=>.inl hb,fun b hb=>hb,fun _ _=>rfl⟩
  | i::B,Q,vs,x,h,h0,hn,hB=>by
    obtain ⟨hiB,hn⟩:=List.nodup_cons.1 hn;obtain ⟨hi0,his,hiz⟩:=hB i (by simp);obtain ⟨y,hy⟩:=Option.isSome_iff_exists.1 his;have hm:=h.merge h0 hl0 hy hi0 (fun e he=>by rw [hiz] at he;exact he);have hx:=(h.seen 0 x h0).2;have sy:=(h.seen i y hy).2;have hap:=h.apart 0 i x y (Ne.symm hi0) h0 hy;have X0:∀ k,k≠0->k≠i->(if k=0 then some (⟨fun b=>x.F b\/y.F b,x.Z,Gw.merge x y⟩:View) else if k=i then none else vs k)=vs k:=fun k hk hki=>by rw [if_neg hk,if_neg hki]
    have hne:∀ k∈B,k≠i:=fun k hk e=>hiB (e▸hk)
    obtain ⟨Q',vs',x',k1,k2,k3,k4,k5,k6,k7,k8,k9,k10⟩:=Qwi hl0 B _ _ ⟨fun b=>x.F b\/y.F b,x.Z,Gw.merge x y⟩ hm (if_pos rfl) hn fun k hk=>by
      obtain ⟨a1,a2,a3⟩:=hB k (by simp [hk]);exact ⟨a1,by rw [X0 k a1 (hne k hk)];exact a2,a3⟩
    have hB0:∀ k∈B,k≠0:=fun k hk=>(hB k (by simp [hk])).1
    refine ⟨Q',vs',x',k1,k2,fun k hk=>?_,fun k hk hk0=>?_,k5,(QJh hx.agr).trans k6,fun k hk z hz=>?_,fun b hb=>?_,fun b hb=>k9 b (.inl hb),fun b hb=>?_⟩
    · rcases List.mem_cons.1 hk with rfl | hk
      · rw [k4 k hiB hi0,if_neg hi0,if_pos rfl]
      · exact k3 k hk
    · rw [k4 k (fun e=>hk (by simp [e])) hk0];exact X0 k hk0 (fun e=>hk (by simp [e]))
    · rcases List.mem_cons.1 hk with rfl | hk
      · rw [hy] at hz;cases hz;exact (QJj hx.agr sy.agr hap).trans k6.shows
      · exact k7 k hk z (by rw [X0 k (hB0 k hk) (hne k hk)];exact hz)
    · rcases k8 b hb with (h1 | h1) | ⟨k,hk,z,hz,h1⟩
      · exact .inl h1
      · exact .inr ⟨i,by simp,y,hy,h1⟩
      · rw [X0 k (hB0 k hk) (hne k hk)] at hz;exact .inr ⟨k,by simp [hk],z,hz,h1⟩
    · have h1 : (Gw.merge x y).heap[b]? = x.w.heap[b]? := by
        rw [Qdi];rcases Nat.lt_or_ge b x.w.heap.size with hlt | hge
        · by_cases hF:x.F b
          · simp [hF]
          · have hyF:¬ y.F b:=fun e=>hF (hb i (by simp) y hy e)
            rw [hx.agr.hid b hF hlt];simp [hF,hyF]
        · rw [Array.getElem?_eq_none hge];rfl
      rw [<-h1];refine k10 b fun k hk z hz hzb=>?_;rw [X0 k (hB0 k hk) (hne k hk)] at hz;exact .inl (hb k (by simp [hk]) z hz hzb)
end

def JS (C:Nat) (cs:Array Value) (et:TypeId) (w:World):World:={ w with heap:=w.heap.setIfInBounds C (.cells cs et (0,0)) }
theorem Qfc {C b:Nat} {cs:Array Value} {et:TypeId} {w:World} (h:b≠C):(JS C cs et w).heap[b]?=w.heap[b]?:=Array.getElem?_setIfInBounds_ne (Ne.symm h)
theorem Qrl {C:Nat} {cs:Array Value} {et:TypeId} {w:World} (h:C < w.heap.size):(JS C cs et w).heap[C]?=some (.cells cs et (0,0)):=by simp [JS,h]
theorem Qrm {C:Nat} {cs:Array Value} {et:TypeId} {w:World}:(JS C cs et w).heap.size=w.heap.size:=by simp [JS]
def ShG (Sh:Loc->Prop) (Wg:Nat):Loc->Prop:=fun l=>Sh l\/∃ ad,l=.cell ad/\ad.block=Wg
structure FullG (C N Low:Nat) (cs0:Array Value) (O:List (Nat×(Value->World->Prop))) (w1 w':World) (cs:Array Value):Prop where
 more:More w1 w'
 low:∀ b,b < Low->b≠C->w'.heap[b]?=w1.heap[b]?
 size:cs.size=N
 full:∀ p∈O,∃ v xw,cs[p.1]?=some v/\p.2 v xw/\Shows xw w'
 rest:∀ k,(∀ p∈O,p.1≠k)->cs[k]?=cs0[k]?

section
variable {P:Program} {Sh:Loc->Prop} {ty:TypeId} {Wg C N:Nat} {et:TypeId} {cs0:Array Value} {Fs:Nat->Prop} {Ws:World} {pd:Nat} {rg:Rg} {bl:Bool} {d0:Nat} {Z:Nat->Prop} {orig:Nat->Option Obj}
variable {O:List (Nat×(Value->World->Prop))} {gm:Goroutine} {w:World} {vs:Nat->Option View} {st st':Nat->Ph} {slot:Nat->Nat} {ph:Nat->Value->World->Prop} {A:List Nat} {τ:List Tr} {cs:Array Value} {Q:Nat->Addr->Prop}
variable {gs:Array Goroutine} {W W':World} {t:Trace} {n:Nat} {S:Goroutine->World->Prop}

theorem Ph.cases {p:Ph} (h1:p.pre=false) (h2:p.late=false):p=.quit\/p=.gone:=by
 cases p with
 | priv=>cases h1
 | quit=>exact .inl rfl
 | gone=>exact .inr rfl
 | lib s=>cases s<;>simp_all [Ph.pre,Ph.late]
def Ph.acq:Ph->Ph
 | .priv=>.priv
 | .lib .A=>.lib .A
 | _=>.gone
theorem Ph.acq_lim (p:Ph):p.acq.lim=p.lim.acq:=by
 cases p with
 | lib s=>cases s<;>rfl
 | _=>rfl
theorem CfgG.acquire {g':Goroutine} (h:CfgG P Sh ty Wg C N et cs0 Fs Ws pd .fin false 0 Z orig O gm w vs st slot ph A τ cs Q gs W t) (hq:stepG P true gm W=.go g' W #[Go.ConcR.mk (.acquire (stA Wg))]) (hE:g'.status=.running) (sl:Option (Nat×Nat)) :
    ∃ (ops:Trace) (gs':Array Goroutine),runT P (crowd gs W sl) 0=(.next (crowd gs' W sl),ops)/\CfgG P Sh ty Wg C N et cs0 Fs Ws pd .acq false 0 Z orig O g' w vs (fun i=>(st i).acq) slot ph A τ cs Q gs' W (t++ops):=by
  obtain ⟨k1,k2,k3,k4,k5⟩:=h.grp;have hin:0 < gs.size:=(Array.getElem?_eq_some_iff.1 h.g0).1;obtain ⟨ops,gs',hrun,h2⟩:=h.mlib (bl':=false) (rg':=.fin) (pd':=pd) sl hq hE (fun e=>by cases e) (h.pg.mark (m:=.acquire (stA Wg)) hin rfl h.pg.gl (by simp)) ⟨rfl,rfl,rfl,rfl⟩ (fun _ _=>rfl) ⟨k1,k2,k3,k4,k5⟩;have hacq:=h.pg.acq hin h.dm gm.frame.fn gm.frame.place;have hrun':=runT_crowd_go (P:=P) (sl:=sl) (i:=0) h.g0 (show stepG P (0 == 0) (Yn false gm) W=_ from hq);have hops:ops=MemOp.ofEvents 0 gm.frame.fn gm.frame.place #[Go.ConcR.mk (.acquire (stA Wg))]:=by
    rw [hrun'] at hrun;exact ((Prod.mk.inj hrun).2).symm
  have et1:t++ops=t++#[{ g:=0,fn:=gm.frame.fn,pos:=gm.frame.place,act:=.mark (.acquire (stA Wg)) }]:=by rw [hops,Qxg];rfl
  have hgs:gs'.size=gs.size:=by have:=h2.len;rw [h.len] at this;exact this.symm
  rw [<-et1] at hacq;have hquit:∀ i∈A,st i=.quit\/st i=.gone:=fun i hi=>Ph.cases (by
    have:=List.countP_eq_zero.1 k2 i hi;simpa using this) (k5 i hi)
  refine ⟨ops, gs', hrun, ⟨by rw [hgs]; have e : (fun i => ((st i).acq).lim) = fun j => ((st j).lim).acq := funext fun j => Ph.acq_lim _
                              rw [e];exact hacq,h2.main,by rw [Ph.acq_lim,h.m0];rfl,h2.dm,h2.g0,h2.run,h2.off,h2.len,h2.nod,h2.act,h2.posts,h2.sln,h2.slN,fun i gi hi hgi=>?_,h2.q,h2.q0,h2.row,h2.rsz,h2.rold,h2.orig,h2.bas,h2.size,h2.keep,h2.same,h2.wgs,h2.cF,⟨k1,k3,rfl,fun i hi=>by dsimp only;rcases hquit i hi with e | e<;>rw [e]<;>rfl⟩⟩⟩
  obtain ⟨r,h3,h4⟩:=h2.oth i gi hi hgi;refine ⟨r,h3,?_⟩;cases hv:vs i with
  | none=>rw [hv] at h4;exact h4
  | some y =>
    rw [hv] at h4;rcases hquit i ((h.act i).2 ⟨hi,by rw [hv];rfl⟩) with e | e<;>(rw [e] at h4 ⊢;exact h4)
theorem CfgG.join (hSh:∀ (l:Loc) (ad:Addr),AtL l ad->Sh l->ad.block < Ws.heap.size/\¬ Fs ad.block) (h:CfgG P Sh ty Wg C N et cs0 Fs Ws pd .acq false 0 Z orig O gm w vs st slot ph A τ cs Q gs W t)
  (hS:∀ w' cs,FullG C N Ws.heap.size cs0 O w w' cs->S gm (thaw Z orig (JS C cs et w'))):Fin0 P (ShG Sh Wg) S Fs Ws gs W t:=by
 obtain ⟨k1,k2,k3,k4⟩:=h.grp;have hin:0 < gs.size:=(Array.getElem?_eq_some_iff.1 h.g0).1;obtain ⟨F,h0,hF⟩:=h.main;have hAs:∀ i∈A,i≠0/\(vs i).isSome=true/\(st i).lim=.zero:=fun i hi=>by
  obtain ⟨a1,a2⟩:=(h.act i).1 hi;exact ⟨a1,a2,by rw [k4 i hi];rfl⟩
 obtain ⟨Q',vs',x',p1,p2,p3,p4,p5,p6,p7,p8,p9,p10⟩:=Qwi (lim:=fun j=>(st j).lim) h.m0 A Q vs ⟨F,Z,w⟩ h.pg h0 h.nod hAs;have hs:=(p1.seen 0 x' p2).2;have hno:∀ j,j≠0->vs' j=none:=fun j hj=>by
  by_cases hA:j∈A
  ·exact p3 j hA
  ·rw [p4 j hA hj];cases hv:vs j with
   | none=>rfl
   | some y=>exact absurd ((h.act j).2 ⟨hj,by rw [hv];rfl⟩) hA
 have hk0:∀ e,(∃ j,(vs' j).isSome=true/\Kn (stA Wg) t ((st j).lim) j e)->Knows t 0 e:=fun e ⟨j,a1,a2⟩=>by
  by_cases hj:j=0
  ·subst hj;exact a2.no h.m0
  ·rw [hno j hj] at a1;cases a1
 have hFx:∀ b,x'.F b->Fs b\/Ws.heap.size<=b:=fun b hb=>by
  rcases p8 b hb with a | ⟨i,hi,y,hy,a⟩
  ·exact h.bas 0 _ h0 b a
  ·exact h.bas i y hy b a
 have hCx:¬ x'.F C:=fun e=>hs.out C (.inr rfl) e
 have hZx:∀ b,Z b->x'.F b:=fun b hb=>p9 b ((h.pg.seen 0 _ h0).2.agr.zf b hb)
 have hZ':∀ b,x'.Z b↔Z b:=fun b=>by rw [p5]
 have hsz:C < x'.w.heap.size:=by rw [<-hs.agr.size];exact h.pg.cl
 have hfull:FullG C N Ws.heap.size cs0 O w x'.w cs:=by
  refine ⟨p6,fun b hb hbC=>p10 b fun i hi y hy hyb=>?_,h.rsz,fun p hp=>?_,fun k hk=>h.rold k fun i hi=>?_⟩
  ·rcases h.bas i y hy b hyb with a | a
   ·exact hF b a hbC
   ·omega
  ·rw [h.posts] at hp;obtain ⟨i,hi,rfl⟩:=List.mem_map.1 hp;obtain ⟨hi0,his⟩:=(h.act i).1 hi;obtain ⟨y,hy⟩:=Option.isSome_iff_exists.1 his;have hlt:=(h.pg.seen i y hy).1;obtain ⟨r,_,hr⟩:=h.oth i _ hi0 (Array.getElem?_eq_getElem hlt);rw [hy,k4 i hi] at hr;obtain ⟨_,u,a1,a2⟩:=hr;exact ⟨u,y.w,a1,a2 _ (Rel.refl _),p7 i hi y hy⟩
  ·exact hk (slot i,ph i) (by rw [h.posts];exact List.mem_map_of_mem hi)
 have hqe:∀ i:Nat,∃ k,∀ gi,i≠0->gs[i]?=some gi->QuitsD P k (Deaf t i) gi:=fun i=>by
  by_cases hi:i≠0/\∃ gi,gs[i]?=some gi
  ·obtain ⟨hi0,gi,hgi⟩:=hi;obtain ⟨r,_,hr⟩:=h.oth i gi hi0 hgi;cases hv:vs i with
   | none =>
    rw [hv] at hr;obtain ⟨k,_,hk⟩:=hr;exact ⟨k,fun gi' _ hgi'=>by rw [hgi] at hgi';cases hgi';exact hk⟩
   | some y =>
    rw [hv,k4 i ((h.act i).2 ⟨hi0,by rw [hv];rfl⟩)] at hr;obtain ⟨⟨k,_,hk⟩,_⟩:=hr;exact ⟨k,fun gi' _ hgi'=>by rw [hgi] at hgi';cases hgi';exact hk⟩
  ·exact ⟨0,fun gi hi0 hgi=>absurd ⟨hi0,gi,hgi⟩ hi⟩
 refine ⟨gm,fun b=>x'.F b\/b=C,_,fun i=>Classical.choose (hqe i),h.g0,hS x'.w cs hfull,⟨?_,?_,fun b hb=>?_,fun l ad hat had hsh=>?_,fun l ad hat hsh=>?_,⟨p1.clean,fun e a ha hm=>?_,fun e g hge hne hc=>?_,h.dm,p1.low⟩,⟨fun i gi hi hgi=>Classical.choose_spec (hqe i) gi (by omega) hgi,p1.above⟩⟩,⟨fun b hb=>?_,fun b hb=>?_,h.keep,h.size,h.same⟩⟩
 ·refine ⟨hs.agr.tape,hs.agr.drawn,hs.agr.os,hs.agr.output,by rw [Qsr,Qrm];exact hs.agr.size,fun b hb _=>?_,fun b _ h=>h.elim,fun b hb hlt=>?_,fun b h=>h.elim⟩
  ·rw [Qfn];by_cases hbC:b=C
   ·subst hbC;have hz:¬ Z b:=fun hz=>hCx (hZx b hz)
    rw [Qrl hsz,h.row];simp [hz]
   ·have hb:x'.F b:=hb.resolve_right hbC;have hlt:=hs.bnd b hb;have hlt':b < x'.w.heap.size:=by rw [<-hs.agr.size];exact hlt
    rw [Qfc hbC];by_cases hz:Z b
    ·rw [Array.getElem?_eq_getElem hlt'];simp only [Option.map_some,if_pos hz];have:=h.orig b hz;rw [Array.getElem?_eq_getElem hlt] at this;rw [Array.getElem?_eq_getElem hlt,<-this];rfl
    ·rw [hs.agr.own b hb (fun e=>hz ((hZ' b).1 e))];simp [hz]
  ·rw [Qsr,Qrm] at hlt;have hbC:b≠C:=fun e=>hb (.inr e)
   have hb':¬ x'.F b:=fun e=>hb (.inl e)
   have hz:¬ Z b:=fun hz=>hb' (hZx b hz)
   rw [Qfn,Qfc hbC,hs.agr.hid b hb' hlt];simp [hz]
 ·intro b a u e;rw [Qfn] at e;by_cases hbC:b=C
  ·subst hbC;have hz:¬ Z b:=fun hz=>hCx (hZx b hz)
   rw [Qrl hsz] at e;simp [hz] at e
  ·rw [Qfc hbC] at e;cases hb:x'.w.heap[b]? with
   | none=>rw [hb] at e;cases e
   | some o =>
    rw [hb] at e;simp only [Option.map_some,Option.some.injEq] at e;by_cases hz:Z b
    ·rw [if_pos hz] at e;obtain ⟨cs1,e1,fz,h1,h2⟩:=hs.agr.shr b (hZx b hz) ((hZ' b).2 hz);rw [<-h.orig b hz,h2] at e;cases e
    ·rw [if_neg hz] at e;subst e;exact hs.nov b a u hb
 ·rcases hb with hb | rfl
  ·exact hs.bnd b hb
  ·exact h.pg.cl
 ·rcases hsh with hsh | ⟨ad',e,hw⟩
  ·obtain ⟨a1,a2⟩:=hSh _ ad hat hsh;rcases had with had | had
   ·rcases hFx _ had with a3 | a3
    ·exact a2 a3
    ·omega
   ·rw [had] at a2;exact a2 h.cF
  ·subst e;cases hat;rcases had with had | had
   ·rw [hw] at had;exact hs.out _ (.inl rfl) had
   ·exact h.pg.gc (hw.symm.trans had)
 ·rcases hsh with hsh | ⟨ad',e,hw⟩
  ·exact Nat.lt_of_lt_of_le (hSh _ ad hat hsh).1 h.size
  ·subst e;cases hat;rw [hw];exact h.pg.gl
 ·rcases p1.known e a ha hm with a1 | a1 | ⟨ad,a1,a2,a3⟩ | a1
  ·exact .inl a1
  ·exact .inr ⟨.inl a1.1,a1.2⟩
  ·exact .inr ⟨.inr ⟨ad,a1,a2⟩,a3⟩
  ·exact .inl (hk0 e a1)
 ·rcases p1.over e g hge hne hc with a1 | a1
  ·exact a1
  ·exact QFz (hk0 e a1) hge hne
 ·by_cases hbC:b=C
  ·exact .inr hbC
  ·exact .inl (p9 b (hF b hb hbC))
 ·rcases hb with hb | rfl
  ·exact hFx b hb
  ·exact .inl h.cF
end
end Go.Gw

end
section
set_option linter.unusedVariables false
namespace Go.Gw
open Go Go.Conc
open Go.ConcR (KK wgBlock WgAt stA smA rd wr mk)
def BS.rg:BS->Rg
 | .X | .S=>.reg
 | .F | .E | .Q=>.fin
 | .Z=>.acq
 | _=>.un
def BS.deaf:BS->Nat
 | .K | .Q | .Z=>0
 | _=>1
def BS.ok (NA idx m cnt:Nat) (bl:Bool):BS->Prop
 | .K | .R=>2 * m+2 * NA+1<=idx
 | .Cs v=>v≠0/\2 * m<=idx/\(v≠cnt->2 * m+2 * NA+1<=idx)
 | .S=>2 * m+(if bl then 0 else 1)<=idx
 | _=>2 * m<=idx
section
variable {P:Program} {Sh:Loc->Prop} {ty:TypeId} {Wg C N:Nat} {et:TypeId} {cs0:Array Value} {Fs:Nat->Prop} {Ws:World} {pd:Nat} {rg:Rg} {bl:Bool} {d0:Nat} {Z:Nat->Prop} {orig:Nat->Option Obj}
variable {O:List (Nat×(Value->World->Prop))} {gm:Goroutine} {w:World} {vs:Nat->Option View} {st st':Nat->Ph} {slot:Nat->Nat} {ph:Nat->Value->World->Prop} {A:List Nat} {τ:List Tr} {cs:Array Value} {Q:Nat->Addr->Prop}
variable {gs:Array Goroutine} {W W':World} {t:Trace} {n:Nat} {S:Goroutine->World->Prop}

theorem BS.ok_some {NA idx0 m0 cnt0:Nat} {bl0:Bool} {s:BS} (m cnt:Nat) (bl:Bool) (h:s.ok NA idx0 m0 cnt0 bl0):∃ idx,s.ok NA idx m cnt bl:=by
 refine ⟨2 * m+2 * NA+1,?_⟩;cases s<;>simp only [BS.ok] at h ⊢<;>first | omega | (cases bl<;>simp<;>omega) | (refine ⟨h.1,by omega,fun _=>by omega⟩)
theorem MW.running {An:Goroutine->Prop} {gE:Goroutine} (hA:∀ g,An g->g.status=.running) (hE:gE.status=.running) {m:Nat} {s:BS} {g:Goroutine} (h:MW P ty Wg An gE m s g):g.status=.running:=by
 have key:(s=.Z/\g=gE)\/(s=.R/\An g)->g.status=.running:=fun h=>by
  rcases h with h | h
  ·rw [h.2];exact hE
  ·exact hA g h.2
 cases m with
 | zero=>exact key h
 | succ m =>
  rcases h with h | h
  ·exact key h
  ·exact h.1
theorem CfgG.someone (h:CfgG P Sh ty Wg C N et cs0 Fs Ws pd .reg true d0 Z orig O gm w vs st slot ph A τ cs Q gs W t):∃ (i:Nat) (gi:Goroutine),gs[i]?=some gi/\gi.status=.running:=by
 have key:∀ i∈A,(st i).pre=true\/(st i).late=true->∃ (i:Nat) (gi:Goroutine),gs[i]?=some gi/\gi.status=.running:=fun i hi hne=>by
  obtain ⟨hi0,his⟩:=(h.act i).1 hi;obtain ⟨y,hy⟩:=Option.isSome_iff_exists.1 his;have hlt:=(h.pg.seen i y hy).1;obtain ⟨r,_,hr⟩:=h.oth i _ hi0 (Array.getElem?_eq_getElem hlt);rw [hy] at hr;refine ⟨i,_,Array.getElem?_eq_getElem hlt,?_⟩;cases hst:st i with
  | quit=>rw [hst] at hne;rcases hne with e | e<;>cases e
  | gone=>rw [hst] at hne;rcases hne with e | e<;>cases e
  | priv=>rw [hst] at hr;exact hr.2.running
  | lib s=>rw [hst] at hr;obtain ⟨⟨m,_,hl,_⟩,_⟩:=hr;exact hl.running
 obtain ⟨_,hh⟩:=h.grp;rcases hh with ⟨k1,_⟩ | ⟨_,i,hi,k2,_⟩ | ⟨_,k2,_⟩
 ·obtain ⟨i,hi,hp⟩:=List.countP_pos_iff.1 k1;exact key i hi (.inl hp)
 ·exact key i hi (.inr (by rcases k2 with ⟨k2 | k2,_⟩ | ⟨k2,_⟩<;>rw [k2]<;>rfl))
 ·cases k2

theorem QSg {An:Goroutine->Prop} {gE:Goroutine} (hN:N+1 < 2147483647) (hSh:∀ (l:Loc) (ad:Addr),AtL l ad->Sh l->ad.block < Ws.heap.size/\¬ Fs ad.block) (hgA:∀ g,An g->g.status=.running) (hE:gE.status=.running) {NA:Nat} (hA:∀ g,An g->MW P ty Wg An gE NA .L g)
    (hS:∀ w1 w' cs,Rel w w1->FullG C N Ws.heap.size cs0 O w1 w' cs->S gE (thaw Z orig (JS C cs et w'))) :
    ∀ τ idx m s g bl,MW P ty Wg An gE m s g->(bl=true->s=.S)->∀ w1,Rel w w1->∀ vs st ph slot A cs Q gs W sl t,BS.ok NA idx m (A.countP fun i=>(st i).pre) bl s ->
      CfgG P Sh ty Wg C N et cs0 Fs Ws 0 s.rg bl s.deaf Z orig O g w1 vs st slot ph A τ cs Q gs W t->Reach P (Fin0 P (ShG Sh Wg) S Fs Ws) gs W sl t:=by
  intro τ
  induction Qfv τ with
  | intro τ _ ih1 =>
    intro idx
    induction idx using Nat.strongRecOn with
    | ind idx ih2 =>
      intro m s g bl hm hbs w1 hr vs st ph slot A cs Q gs W sl t hok h
      -- at the loop's head
      by_cases hAt:s=.R/\An g
      · obtain ⟨rfl,hAg⟩:=hAt;have hbl:bl=false:=by cases bl with | false=>rfl | true=>have:=hbs rfl;cases this
        subst hbl;simp only [BS.ok] at hok;exact ih2 (2 * NA) (by omega) NA .L g false (hA g hAg) (fun e=>by cases e) w1 hr vs st ph slot A cs Q gs W sl t (by simp [BS.ok]) h
      by_cases hZt:s=.Z/\g=gE
      · obtain ⟨rfl,rfl⟩:=hZt;have hbl:bl=false:=by cases bl with | false=>rfl | true=>have:=hbs rfl;cases this
        subst hbl;exact Reach.here (h.join hSh fun w' cs hf=>hS _ w' cs hr hf)
      have hnAt:¬ ((s=.Z/\g=gE)\/(s=.R/\An g)):=fun e=>e.elim hZt hAt
      cases m with
      | zero=>exact absurd hm hnAt
      | succ m =>
        obtain ⟨hrun,hm1⟩:=hm.resolve_left hnAt;have hsome:∃ (i:Nat) (gi:Goroutine),gs[i]?=some gi/\gi.status=.running:=by
          cases bl with
          | false=>exact ⟨0,g,h.g0,hrun⟩
          | true=>have:=hbs rfl;subst this;exact h.someone
        obtain ⟨i,gi,d,sl',hgi,hrg,hst,h'⟩:=h.pick hsome sl;have hr2:=hr.trans (JR w1 d);by_cases hi0:i=0
        · subst hi0;have hbl:bl=false:=by
            cases bl with
            | false=>rfl
            | true=>rw [h'.g0] at hgi;cases hgi;simp [Yn] at hrg
          subst hbl;have hlive:=h'.grp.live;have hin:0 < gs.size:=(Array.getElem?_eq_some_iff.1 h'.g0).1;have hc:=h'.cnt
          have go : ∀ {g' : Goroutine} {W' : World} {es : Array Event} {s' : BS} {m' : Nat} {bl' : Bool} (idx' : Nat), idx' < idx -> stepG P true g (W.at d) = .go (Yn bl' g') W' es -> MW P ty Wg An gE m' s' g' -> (bl' = true -> s' = .S /\ g'.offers = none) -> PG Sh (stA Wg) C Q (fun j => (st j).lim) (Qcg vs d) gs.size W' (t ++ MemOp.ofEvents 0 g.frame.fn g.frame.place es) ->
              (W'.tape=(W.at d).tape/\W'.os=(W.at d).os/\W'.output=(W.at d).output/\W'.heap.size=(W.at d).heap.size)->(∀ b,b≠Wg->W'.heap[b]?=(W.at d).heap[b]?)->GrpOk ty Wg s'.rg 0 bl' st A W'->deafBehind s.deaf es=s'.deaf->BS.ok NA idx' m' (A.countP fun i=>(st i).pre) bl' s'->Reach P (Fin0 P (ShG Sh Wg) S Fs Ws) gs W sl t:=by
            intro g' W' es s' m' bl' idx' hlt hs hm' hb' hpg hW hblk hgrp hd hok';obtain ⟨ops,gs',h1,h2⟩:=h'.mlib (bl':=bl') sl' hs (hm'.running hgA hE) (fun e=>(hb' e).2) hpg hW hblk hgrp;rw [hd] at h2;exact Reach.step (hst.trans h1) (ih2 idx' hlt m' s' g' bl' hm' (fun e=>(hb' e).1) _ hr2 _ _ _ _ _ _ _ _ _ _ _ hok' h2)
          have same:∀ {s':BS},s'.rg=s.rg->GrpOk ty Wg s'.rg 0 false st A (W.at d):=fun e=>by rw [e];exact h'.grp
          rcases hm1 with hm1 | hm1
          · obtain ⟨g',hs,hm'⟩:=hm1 _ hlive;refine go (s':=s) (bl':=false) (idx - 1) ?_ hs hm' (fun e=>by cases e) (by rw [Qhd,Array.append_empty];exact h'.pg) ⟨rfl,rfl,rfl,rfl⟩ (fun _ _=>rfl) h'.grp rfl ?_
            · cases s<;>simp only [BS.ok] at hok<;>first | omega | (simp at hok;omega)
            · cases s<;>simp only [BS.ok] at hok ⊢<;>first | omega | (simp at hok ⊢;omega) | exact ⟨hok.1,by omega,fun hv=>by have:=hok.2.2 hv;omega⟩
          · cases s with
            | K =>
              obtain ⟨g',hs,hm'⟩:=hm1;simp only [BS.ok] at hok;exact go (s':=.R) (bl':=false) (idx - 1) (by omega) (hs _ hlive) hm' (fun e=>by cases e) (h'.pg.mark hin rfl trivial (by simp)) ⟨rfl,rfl,rfl,rfl⟩ (fun _ _=>rfl) (same rfl) rfl (by simp only [BS.ok];omega)
            | L =>
              obtain ⟨k1,k2,k3⟩:=h'.grp;have k1:WgAt ty Wg (W.at d) (((A.countP (fun i=>(st i).pre):Nat):Int) * KK) 0:=by simpa using k1
              obtain ⟨g',hs,hz,hnz⟩:=hm1 (A.countP fun i=>(st i).pre) (by omega);simp only [BS.ok] at hok;have hpg:=h'.pg.atom1 (fn:=g.frame.fn) (pos:=g.frame.place) hin (by rw [h'.dm];exact Nat.zero_lt_one) (a:=stA Wg) rfl false;by_cases hv:A.countP (fun i=>(st i).pre)=0
              · exact go (s':=.E) (bl':=false) (idx - 1) (by omega) (hs _ k1) (hz hv) (fun e=>by cases e) hpg ⟨rfl,rfl,rfl,rfl⟩ (fun _ _=>rfl) ⟨rfl,hv,by rw [hv] at k1;simpa using k1,rfl,k2⟩ (Qav _ (.inl rfl)) (by simp only [BS.ok];omega)
              · exact go (s':=.Cs (A.countP fun i=>(st i).pre)) (bl':=false) (idx - 1) (by omega) (hs _ k1) (hnz hv) (fun e=>by cases e) hpg ⟨rfl,rfl,rfl,rfl⟩ (fun _ _=>rfl) (same rfl) (Qav _ (.inl rfl)) ⟨hv,by omega,fun e=>absurd rfl e⟩
            | Cs v =>
              obtain ⟨k1,k2,k3⟩:=h'.grp;have k1:WgAt ty Wg (W.at d) (((A.countP (fun i=>(st i).pre):Nat):Int) * KK) 0:=by simpa using k1
              obtain ⟨⟨g1,hs1,hm2⟩,hmiss⟩:=hm1;simp only [BS.ok] at hok;by_cases hv:v=A.countP fun i=>(st i).pre
              · have hpos:0 < A.countP (fun i=>(st i).pre):=by have:=hok.1;omega
                subst hv;exact go (s':=.X) (bl':=false) (idx - 1) (by omega) (hs1 _ k1) hm2 (fun e=>by cases e) ((h'.pg.atom2 hin (by rw [h'.dm];exact Nat.zero_lt_one) rfl).set (.inl rfl) _) ⟨rfl,rfl,rfl,Qam⟩ (fun b hb=>Qbf b hb) ⟨rfl,.inl ⟨hpos,k1.setSt _,k2⟩⟩ (Qav _ (.inr (.inr rfl))) (by simp only [BS.ok];omega)
              · have:=hok.2.2 hv;obtain ⟨g2,hs2,hm3⟩:=hmiss (A.countP fun i=>(st i).pre) (Ne.symm hv) (by omega);exact go (s':=.R) (bl':=false) (idx - 1) (by omega) (hs2 _ k1) hm3 (fun e=>by cases e) (h'.pg.atom1 hin (by rw [h'.dm];exact Nat.zero_lt_one) rfl false) ⟨rfl,rfl,rfl,rfl⟩ (fun _ _=>rfl) (same rfl) (Qav _ (.inl rfl)) (by simp only [BS.ok];omega)
            | R=>exact hm1.elim
            | X =>
              obtain ⟨g',hs,hm'⟩:=hm1;simp only [BS.ok] at hok;exact go (s':=.S) (bl':=false) (idx - 1) (by omega) (hs _ hlive) hm' (fun e=>by cases e) (h'.pg.said0 hin rfl).2 ⟨rfl,rfl,rfl,rfl⟩ (fun _ _=>rfl) (same rfl) rfl (by simp only [BS.ok];simp;omega)
            | S =>
              obtain ⟨ho,hwait,g',hs,hm'⟩:=hm1;simp [BS.ok] at hok;obtain ⟨k0,hh⟩:=h'.grp;have hblock:(∃ st',WgAt ty Wg (W.at d) st' 0)->Reach P (Fin0 P (ShG Sh Wg) S Fs Ws) gs W sl t:=fun ⟨st0,hw⟩ =>
                go (s':=.S) (bl':=true) (m':=m+1) (idx - 1) (by omega) (hwait _ st0 hw) hm (fun _=>⟨rfl,ho⟩) (by rw [Qhd,Array.append_empty];exact h'.pg) ⟨rfl,rfl,rfl,rfl⟩ (fun _ _=>rfl) ⟨rfl,by
                  rcases hh with k | k | ⟨_,_,k,_⟩
                  · exact .inl k
                  · exact .inr (.inl k)
                  · have:=(hw.unique k).2;cases this⟩ rfl (by simp only [BS.ok];simp;omega)
              rcases hh with ⟨_,k2,_⟩ | ⟨_,i,_,k2,_⟩ | ⟨k1,_,k2,k3⟩
              · exact hblock ⟨_,k2⟩
              · rcases k2 with ⟨_,k2⟩ | ⟨_,k2⟩<;>exact hblock ⟨_,k2⟩
              · exact go (s':=.F) (bl':=false) (idx - 1) (by omega) (hs _ k2) hm' (fun e=>by cases e) ((h'.pg.sem hin rfl).set (.inl rfl) _) ⟨rfl,rfl,rfl,Qam⟩ (fun b hb=>Qbf b hb) ⟨rfl,k1,k2.setSm 0,rfl,k3⟩ (Quh _ _) (by simp only [BS.ok];omega)
            | F =>
              obtain ⟨g',hs,hm'⟩:=hm1;simp only [BS.ok] at hok;exact go (s':=.E) (bl':=false) (idx - 1) (by omega) (hs _ h'.grp.2.2.1) hm' (fun e=>by cases e) (h'.pg.atom1 hin (by rw [h'.dm];exact Nat.zero_lt_one) rfl false) ⟨rfl,rfl,rfl,rfl⟩ (fun _ _=>rfl) (same rfl) (Qav _ (.inl rfl)) (by simp only [BS.ok];omega)
            | E =>
              obtain ⟨g',hs,hm'⟩:=hm1;simp only [BS.ok] at hok;exact go (s':=.Q) (bl':=false) (idx - 1) (by omega) (hs _ hlive) hm' (fun e=>by cases e) (h'.pg.mark hin rfl trivial (by simp)) ⟨rfl,rfl,rfl,rfl⟩ (fun _ _=>rfl) (same rfl) rfl (by simp only [BS.ok];omega)
            | Q =>
              obtain ⟨g',hs,hm'⟩:=hm1;simp only [BS.ok] at hok;obtain ⟨ops,gs',h1,h2⟩:=h'.acquire (hs _ hlive) (hm'.running hgA hE) sl';exact Reach.step (hst.trans h1) (ih2 (idx - 1) (by omega) m .Z g' false hm' (fun e=>by cases e) _ hr2 _ _ _ _ _ _ _ _ _ _ _ (by simp only [BS.ok];omega) h2)
            | Z=>exact hm1.elim
        · obtain ⟨ops,gs',W',vs',st',τ',cs',bl',w',h1,h2,h3,h4,h5⟩:=h'.other hN (Nat.zero_le _) hgi hi0 hrg sl';obtain ⟨idx',hok'⟩:=BS.ok_some (s:=s) (idx0:=idx) (m0:=m+1) (cnt0:=A.countP fun i=>(st i).pre) (bl0:=bl) (m+1) (A.countP fun i=>(st' i).pre) bl' hok;exact Reach.step (hst.trans h1) (ih1 τ' h2 idx' (m+1) s g bl' hm (fun e=>hbs (h4 e)) w' (hr2.trans h3) _ _ _ _ _ _ _ _ _ _ _ hok' h5)
end
end Go.Gw

end
section
set_option linter.unusedVariables false
namespace Go.Gw
open Go Go.Conc
open Go.ConcR (KK wgBlock WgAt stA smA rd wr mk)
open Go.ConcN (sumTo)

inductive QW (P:Program) (ty:TypeId) (Wg C N Low:Nat) (et:TypeId) (cs0:Array Value) (S:Goroutine->World->Prop):Nat->(Nat->Prop)->(Nat->Option Obj)->List (Nat×(Value->World->Prop))->Goroutine->World->Prop
  | step {pd : Nat} {Z : Nat -> Prop} {orig : Nat -> Option Obj} {O : List (Nat × (Value -> World -> Prop))} {g : Goroutine} {w : World} (nx : World -> Goroutine × World) : g.status = .running -> (∀ w1, Rel w w1 -> JL P true Z g w1 (nx w1).1 (nx w1).2) ->
      (∀ w1,Rel w w1->QW P ty Wg C N Low et cs0 S pd Z orig O (nx w1).1 (nx w1).2)->QW P ty Wg C N Low et cs0 S pd Z orig O g w
  | add {Z:Nat->Prop} {orig:Nat->Option Obj} {O:List (Nat×(Value->World->Prop))} {g:Goroutine} {w:World} (gE:Goroutine) (m:Nat):g.status=.running->MA P ty Wg gE m .K g->(∀ w1,Rel w w1->QW P ty Wg C N Low et cs0 S 1 Z orig O gE w1)->QW P ty Wg C N Low et cs0 S 0 Z orig O g w
  | fork {Z : Nat -> Prop} {orig : Nat -> Option Obj} {O : List (Nat × (Value -> World -> Prop))} {g : Goroutine} {w : World} (g' child : Goroutine) (K : Nat -> Prop) (k : Nat) (φ : Value -> World -> Prop) : g.status = .running -> (∀ W, stepG P true g W = .spawn g' child W #[]) ->
      k < N->(∀ p∈O,p.1≠k)->(∀ w1,Rel w w1->Rows K w1)->(∀ w1,Rel w w1->Wlk (Jw P fun b=>Z b\/K b) (fun g w=>∃ m,Qcw P ty Wg C k φ m g w) child (hid (fun b=>Z b\/K b) (frz K w1))) ->
      (∀ w1,Rel w w1->QW P ty Wg C N Low et cs0 S 0 (fun b=>Z b\/K b) (Qaz Z K w1 orig) (O++[(k,φ)]) g' (frz K w1))->QW P ty Wg C N Low et cs0 S 1 Z orig O g w
  | wait {Z : Nat -> Prop} {orig : Nat -> Option Obj} {O : List (Nat × (Value -> World -> Prop))} {g : Goroutine} {w : World} (An : Goroutine -> Prop) (gE : Goroutine) (m NA : Nat) : g.status = .running -> (∀ g, An g -> g.status = .running) -> gE.status = .running -> MW P ty Wg An gE m .K g -> (∀ g, An g -> MW P ty Wg An gE NA .L g) ->
      (∀ w1 w' cs,Rel w w1->FullG C N Low cs0 O w1 w' cs->S gE (thaw Z orig (JS C cs et w')))->QW P ty Wg C N Low et cs0 S 0 Z orig O g w
theorem QW.running {P:Program} {ty:TypeId} {Wg C N Low:Nat} {et:TypeId} {cs0:Array Value} {S:Goroutine->World->Prop} {pd:Nat} {Z:Nat->Prop} {orig:Nat->Option Obj} {O:List (Nat×(Value->World->Prop))} {g:Goroutine} {w:World} (h:QW P ty Wg C N Low et cs0 S pd Z orig O g w):g.status=.running:=by
 cases h<;>assumption
section
variable {P:Program} {Sh:Loc->Prop} {ty:TypeId} {Wg C N:Nat} {et:TypeId} {cs0:Array Value} {Fs:Nat->Prop} {Ws:World} {pd:Nat} {rg:Rg} {bl:Bool} {d0:Nat} {Z:Nat->Prop} {orig:Nat->Option Obj}
variable {O:List (Nat×(Value->World->Prop))} {gm:Goroutine} {w:World} {vs:Nat->Option View} {st st':Nat->Ph} {slot:Nat->Nat} {ph:Nat->Value->World->Prop} {A:List Nat} {τ:List Tr} {cs:Array Value} {Q:Nat->Addr->Prop}
variable {gs:Array Goroutine} {W W':World} {t:Trace} {n:Nat} {S:Goroutine->World->Prop}

open Classical in
theorem CfgG.fork (h:CfgG P Sh ty Wg C N et cs0 Fs Ws 1 .un false 0 Z orig O gm w vs st slot ph A τ cs Q gs W t) {g' child:Goroutine} {K:Nat->Prop} {k:Nat} {φ:Value->World->Prop} (hst:∀ W,stepG P true gm W=.spawn g' child W #[]) (hk:k < N) (hkO:∀ p∈O,p.1≠k) (hC:Rows K w)
    (hw:Wlk (Jw P fun b=>Z b\/K b) (fun g w=>∃ m,Qcw P ty Wg C k φ m g w) child (hid (fun b=>Z b\/K b) (Gw.frz K w))) (hr:g'.status=.running) (sl:Option (Nat×Nat)) :
    ∃ (ops:Trace) (gs':Array Goroutine) (vs':Nat->Option View) (st':Nat->Ph) (slot':Nat->Nat) (ph':Nat->Value->World->Prop) (A':List Nat) (τ':List Tr) (Q':Nat->Addr->Prop),runT P (crowd gs W sl) 0=(.next (crowd gs' W sl),ops) /\
      CfgG P Sh ty Wg C N et cs0 Fs Ws 0 .un false 0 (fun b=>Z b\/K b) (Qaz Z K w orig) (O++[(k,φ)]) g' (Gw.frz K w) vs' st' slot' ph' A' τ' cs Q' gs' W (t++ops):=by
  obtain ⟨F,h0,hF⟩:=h.main;have hs0:=(h.pg.seen 0 _ h0).2;have hlt:0 < gs.size:=(Array.getElem?_eq_some_iff.1 h.g0).1;obtain ⟨τc,hτc⟩:=WT.of (fun _ _ _ h=>h.1) hw;have hCF:∀ b,K b->F b:=fun b hb=>Classical.byContradiction fun hn=>by
    obtain ⟨cs,e,fz,h1⟩:=hC b hb;rw [hs0.agr.hid b hn (Array.getElem?_eq_some_iff.1 h1).1] at h1;cases h1
  have hrun:=runT_crowd_spawn (P:=P) (sl:=sl) (i:=0) h.g0 (show stepG P (0 == 0) (Yn false gm) W=_ from hst W);have hslk:∀ i∈A,slot i≠k:=fun i hi e=>hkO (slot i,ph i) (by rw [h.posts];exact List.mem_map_of_mem hi) e
  have hpi:=h.pg.fork (D:=fun ad=>ad=⟨C,k,none⟩) h0 h.m0 h.dm hCF hC (fun ad e=>by subst e;exact h.q0 _ rfl fun i hi e=>hslk i hi (by cases e;rfl)) gm.frame.fn child.frame.fn gm.frame.place gm.frame.place
  have et1 : t ++ ((MemOp.ofEvents 0 (Yn false gm).frame.fn (Yn false gm).frame.place #[]).push { g := 0, fn := (Yn false gm).frame.fn, pos := (Yn false gm).frame.place, act := .go gs.size } |>.push { g := gs.size, fn := child.frame.fn, pos := (Yn false gm).frame.place, act := .start }) =
      t++#[{ g:=0,fn:=gm.frame.fn,pos:=gm.frame.place,act:=.go gs.size }]++#[{ g:=gs.size,fn:=child.frame.fn,pos:=gm.frame.place,act:=.start }]:=by
    rw [Qhd,Array.append_assoc];rfl
  have hAn:gs.size∉A:=fun hm=>by
    obtain ⟨_,h2⟩:=(h.act _).1 hm;cases hv:vs gs.size with
    | none=>rw [hv] at h2;cases h2
    | some x=>have:=(h.pg.seen _ x hv).1;omega
  have hdeaf:∀ j,Deaf (t++#[{ g:=0,fn:=gm.frame.fn,pos:=gm.frame.place,act:=.go gs.size }]++#[{ g:=gs.size,fn:=child.frame.fn,pos:=gm.frame.place,act:=.start }]) j=Deaf t j:=fun j=>by rw [Qgg (Qol ..),Qgg (Qjb ..)]
  have hsz:((gs.setIfInBounds 0 g').push child).size=gs.size+1:=by simp
  have hlim:(fun i=>((if i=gs.size then Ph.priv else st i):Ph).lim)=fun j=>if j=gs.size then Lv.no else (st j).lim:=funext fun j=>by
    by_cases e:j=gs.size<;>simp [e,Ph.lim]
  refine ⟨_,_,(fun j=>if j=0 then some ⟨F,fun b=>Z b\/K b,Gw.frz K w⟩ else if j=gs.size then some ⟨fun b=>Z b\/K b,fun b=>Z b\/K b,hid (fun b=>Z b\/K b) (Gw.frz K w)⟩ else vs j),(fun i=>if i=gs.size then .priv else st i),(fun j=>if j=gs.size then k else slot j),(fun j=>if j=gs.size then φ else ph j),A++[gs.size],τ++[τc],
    (fun j ad=>if j=0 then Q 0 ad/\¬ ad=⟨C,k,none⟩ else if j=gs.size then ad=⟨C,k,none⟩ else Q j ad),hrun,?_⟩
  rw [et1];have hnA:∀ i∈A,i≠gs.size:=fun i hi e=>hAn (e▸hi)
  have hA0:∀ i∈A,i≠0:=fun i hi=>((h.act i).1 hi).1
  have hmapk:A.map (fun j=>if j=gs.size then k else slot j)=A.map slot:=List.map_congr_left fun a ha=>by simp [hnA a ha]
  refine ⟨by rw [hsz,hlim];exact hpi,⟨F,by simp,hF⟩,by rw [if_neg (by omega)];exact h.m0,by rw [hdeaf];exact h.dm,?_,hr,fun e=>(by cases e),by simp [h.len],?_,fun j=>?_,?_,?_,fun i hi=>?_,fun j gj hj hgj=>?_,fun i hi=>?_,fun ad had hno=>?_,h.row,h.rsz,fun l hl=>?_,fun b hb=>?_,fun j y hy b hb=>?_,h.size,h.keep,h.same,h.wgs,h.cF,?_⟩
  · rw [Array.getElem?_push,if_neg (by simp;omega)];simp [hlt,Yn]
  · refine List.nodup_append.2 ⟨h.nod,by simp,fun a ha b hb e=>?_⟩;have:b=gs.size:=by simpa using hb
    subst e;subst this;exact hAn ha
  · rw [List.mem_append,h.act j];by_cases hj:j=0
    · subst hj;have:gs.size≠0:=by omega
      simp [this.symm]
    · by_cases hjn:j=gs.size
      · subst hjn;simp [hj]
      · simp [hj,hjn]
  · rw [List.map_append];congr 1
    · rw [h.posts];apply List.map_congr_left;intro a ha;simp [hnA a ha]
    · simp
  · rw [List.map_append,hmapk];refine List.nodup_append.2 ⟨h.sln,by simp,fun a ha b hb e=>?_⟩;have:b=k:=by simpa using hb
    obtain ⟨i,hi,rfl⟩:=List.mem_map.1 ha;exact hslk i hi (e.trans this)
  · rcases List.mem_append.1 hi with hi | hi
    · rw [if_neg (hnA i hi)];exact h.slN i hi
    · have:i=gs.size:=by simpa using hi
      subst this;simpa using hk
  · rw [hdeaf];rw [Array.getElem?_push] at hgj;by_cases hjn:j=gs.size
    · subst hjn;rw [if_pos (by simp)] at hgj;cases hgj;refine ⟨τc,by rw [<-h.len];simp,?_⟩;simp only [if_neg hj,if_pos rfl];exact ⟨h.pg.above _ (Nat.le_refl _),hτc⟩
    · rw [if_neg (by simpa using hjn),Array.getElem?_setIfInBounds_ne (Ne.symm hj)] at hgj;obtain ⟨r,h1,h2⟩:=h.oth j gj hj hgj;have hjl:j < τ.length:=(List.getElem?_eq_some_iff.1 h1).1;refine ⟨r,by rw [List.getElem?_append_left hjl];exact h1,?_⟩;simp only [if_neg hj,if_neg hjn];exact h2
  · rcases List.mem_append.1 hi with hi | hi
    · simp only [if_neg (hA0 i hi),if_neg (hnA i hi)];exact h.q i hi
    · have:i=gs.size:=by simpa using hi
      subst this;have:gs.size≠0:=by omega
      simp [this]
  · simp only [if_true];refine ⟨h.q0 ad had fun i hi e=>?_,fun e=>?_⟩
    · have:=hno i (List.mem_append_left _ hi);rw [if_neg (hnA i hi)] at this;exact this e
    · have:=hno gs.size (by simp);rw [if_pos rfl] at this;exact this e
  · refine h.rold l fun i hi=>?_;have:=hl i (List.mem_append_left _ hi);rwa [if_neg (hnA i hi)] at this
  · unfold Qaz;by_cases hz:Z b
    · rw [if_pos hz];exact h.orig b hz
    · rw [if_neg hz];have hKb:=hb.resolve_left hz;exact hs0.agr.own b (hCF b hKb) hz
  · by_cases hj:j=0
    · rw [if_pos hj] at hy;cases hy;exact h.bas 0 _ h0 b hb
    · rw [if_neg hj] at hy;by_cases hjn:j=gs.size
      · rw [if_pos hjn] at hy;cases hy;exact h.bas 0 _ h0 b (hb.elim (hs0.agr.zf b) (hCF b))
      · rw [if_neg hjn] at hy;exact h.bas j y hy b hb
  · obtain ⟨k1,k2,k3⟩:=h.grp;have e1:(A++[gs.size]).countP (fun i=>((if i=gs.size then Ph.priv else st i):Ph).pre)=A.countP (fun i=>(st i).pre)+1:=by
      rw [List.countP_append];have:A.countP (fun i=>((if i=gs.size then Ph.priv else st i):Ph).pre)=A.countP (fun i=>(st i).pre):=List.countP_congr fun i hi=>by simp [hnA i hi]
      rw [this];simp [Ph.pre]
    refine ⟨by rw [e1];exact k1,fun i hi=>?_,rfl⟩;dsimp only;rcases List.mem_append.1 hi with hi | hi
    · rw [if_neg (hnA i hi)];exact k2 i hi
    · have:i=gs.size:=by simpa using hi
      rw [if_pos this];rfl

theorem QFy (hN:N+1 < 2147483647) (hSh:∀ (l:Loc) (ad:Addr),AtL l ad->Sh l->ad.block < Ws.heap.size/\¬ Fs ad.block) (h:QW P ty Wg C N Ws.heap.size et cs0 S pd Z orig O gm w) :
  pd<=1->∀ w1,Rel w w1->∀ τ vs st slot ph A cs Q gs W sl t,CfgG P Sh ty Wg C N et cs0 Fs Ws pd .un false 0 Z orig O gm w1 vs st slot ph A τ cs Q gs W t->Reach P (Fin0 P (ShG Sh Wg) S Fs Ws) gs W sl t:=by
 induction h with
 | @step pd Z orig O g w nx hrun hv hn ih =>
  intro hpd w1 hr τ;revert w1
  induction Qfv τ with
  | intro τ _ ih2 =>
   intro w1 hr vs st slot ph A cs Q gs W sl t h;obtain ⟨i,gi,d,sl',hgi,hrg,hst,h'⟩:=h.pick ⟨0,g,h.g0,hrun⟩ sl;have hr2:=hr.trans (JR w1 d);by_cases hi0:i=0
   ·subst hi0;obtain ⟨ops,gs',W',vs',h1,h2⟩:=h'.own (hv _ hr2) (hn _ hr2).running sl';exact Reach.step (hst.trans h1) (ih _ hr2 hpd _ (Rel.refl _) τ vs' st slot ph A cs Q gs' W' sl' _ h2)
   ·obtain ⟨ops,gs',W',vs',st',τ',cs',bl',w',h1,h2,h3,h4,h5⟩:=h'.other hN hpd hgi hi0 hrg sl';have hbl:bl'=false:=by cases bl' with | false=>rfl | true=>cases h4 rfl
    subst hbl;exact Reach.step (hst.trans h1) (ih2 τ' h2 w' (hr2.trans h3) _ _ _ _ _ _ _ _ _ _ _ h5)
 | @add Z orig O g w gE m hrun hm hn ih =>
  intro _ w1 hr τ vs st slot ph A cs Q gs W sl t h;exact QBi hN (hn w (Rel.refl w)).running (fun w2 hr2 τ vs st ph slot A cs Q gs W sl t h2=>ih w2 hr2 (Nat.le_refl _) w2 (Rel.refl _) τ vs st slot ph A cs Q gs W sl t h2) m .K g hm τ w1 hr vs st ph slot A cs Q gs W sl t h
 | @fork Z orig O g w g' child K k φ hrun hsp hk hkO hC hw hn ih =>
  intro _ w1 hr τ;revert w1
  induction Qfv τ with
  | intro τ _ ih2 =>
   intro w1 hr vs st slot ph A cs Q gs W sl t h;obtain ⟨i,gi,d,sl',hgi,hrg,hst,h'⟩:=h.pick ⟨0,g,h.g0,hrun⟩ sl;have hr2:=hr.trans (JR w1 d);by_cases hi0:i=0
   ·subst hi0;obtain ⟨ops,gs',vs',st',slot',ph',A',τ',Q',h1,h2⟩:=h'.fork hsp hk hkO (hC _ hr2) (hw _ hr2) (hn _ hr2).running sl';exact Reach.step (hst.trans h1) (ih _ hr2 (Nat.zero_le _) _ (Rel.refl _) τ' vs' st' slot' ph' A' cs Q' gs' _ sl' _ h2)
   ·obtain ⟨ops,gs',W',vs',st',τ',cs',bl',w',h1,h2,h3,h4,h5⟩:=h'.other hN (Nat.le_refl _) hgi hi0 hrg sl';have hbl:bl'=false:=by cases bl' with | false=>rfl | true=>cases h4 rfl
    subst hbl;exact Reach.step (hst.trans h1) (ih2 τ' h2 w' (hr2.trans h3) _ _ _ _ _ _ _ _ _ _ _ h5)
 | @wait Z orig O g w An gE m NA hrun hgA hE hm hA hS =>
  intro _ w1 hr τ vs st slot ph A cs Q gs W sl t h;exact QSg hN hSh hgA hE hA hS τ (2 * m+2 * NA+1) m .K g false hm (fun e=>by cases e) w1 hr vs st ph slot A cs Q gs W sl t (by simp [BS.ok]) h
end
end Go.Gw

end
section
set_option linter.unusedVariables false
namespace Go.Gw
open Go Go.Conc
open Go.ConcR (KK wgBlock WgAt stA smA rd wr mk)
open Go.ConcN (sumTo)
def Ji (C:Nat) (w:World):World:={ w with heap:=w.heap.setIfInBounds C YK }
theorem Qjp {C b:Nat} {w:World} (h:b≠C):(Ji C w).heap[b]?=w.heap[b]?:=Array.getElem?_setIfInBounds_ne (Ne.symm h)
theorem Quy {C:Nat} {w:World} (h:C < w.heap.size):(Ji C w).heap[C]?=some YK:=by simp [Ji,h]
theorem Quz {C:Nat} {w:World}:(Ji C w).heap.size=w.heap.size:=by simp [Ji]
section
variable {P:Program} {Sh:Loc->Prop} {F F':Nat->Prop} {w w':World} {gs:Array Goroutine} {W W' W2:World} {t:Trace} {q:Nat->Nat} {g g':Goroutine} {S:Goroutine->World->Prop} {ty et:TypeId} {C:Nat} {cs0:Array Value}

theorem MI.grp (h:MI P Sh F w gs W t q) (h0:gs[0]?=some g) (hr:g'.status=.running) (hC:w.heap[C]?=some (.cells cs0 et (0,0))) :
    CfgG P Sh ty W.heap.size C cs0.size et cs0 F W 0 .un false 0 (fun _=>False) (fun _=>none) [] g' (Ji C { w with heap:=w.heap.push YK }) (fun i=>if i=0 then some ⟨fun b=>F b/\b≠C,fun _=>False,Ji C { w with heap:=w.heap.push YK }⟩ else none)
      (fun _=>.priv) (fun _=>0) (fun _ _ _=>True) [] ((List.range gs.size).map fun i=>nt (q i)) cs0 (fun j ad=>j=0/\ad.block=C) (gs.setIfInBounds 0 g') { W with heap:=W.heap.push (wgBlock ty 0 0) } t:=by
  have hlt:0 < gs.size:=(Array.getElem?_eq_some_iff.1 h0).1;have hCl:C < w.heap.size:=(Array.getElem?_eq_some_iff.1 hC).1;have hFC:F C:=Classical.byContradiction fun hn=>by rw [h.agr.hid C hn hCl] at hC;cases hC
  have hCW:C < W.heap.size:=h.bnd C hFC;have hrow:W.heap[C]?=some (.cells cs0 et (0,0)):=by rw [h.agr.own C hFC (fun e=>e)];exact hC
  have hpush:∀ b,b < W.heap.size->(W.heap.push (wgBlock ty 0 0))[b]?=W.heap[b]?:=fun b hb=>by rw [Array.getElem?_push,if_neg (by omega)]
  have hsz:(Ji C { w with heap:=w.heap.push YK }).heap.size=w.heap.size+1:=by rw [Quz];simp
  have hget:∀ b,b≠C->b < w.heap.size->(Ji C { w with heap:=w.heap.push YK }).heap[b]?=w.heap[b]?:=fun b hb hl=>by
    rw [Qjp hb];show (w.heap.push YK)[b]?=_;rw [Array.getElem?_push,if_neg (by omega)]
  have hagr:Agr (fun b=>F b/\b≠C) (fun _=>False) (Ji C { w with heap:=w.heap.push YK }) { W with heap:=W.heap.push (wgBlock ty 0 0) }:=by
    refine ⟨h.agr.tape,h.agr.drawn,h.agr.os,h.agr.output,by rw [hsz];simp [h.agr.size],fun b hb hz=>?_,fun b _ h=>h.elim,fun b hb hlt=>?_,fun b h=>h.elim⟩
    · have:=h.bnd b hb.1;rw [hget b hb.2 (by rw [<-h.agr.size];exact this)];show (W.heap.push _)[b]?=_;rw [hpush b this];exact h.agr.own b hb.1 hz
    · by_cases hbC:b=C
      · subst hbC;exact Quy (by simp;omega)
      · rw [hsz] at hlt;rcases Nat.lt_or_ge b w.heap.size with h1 | h1
        · rw [hget b hbC h1];exact h.agr.hid b (fun e=>hb ⟨e,hbC⟩) h1
        · rw [Qjp hbC];show (w.heap.push YK)[b]?=_;rw [Array.getElem?_push,if_pos (by omega)]
  have hown:∀ e a ad,touchAt t e=some a->AtL a.loc ad->F ad.block->Knows t 0 e:=fun e a ad ha hl hF=>by
    rcases h.past.known e a ha hl.mem with h1 | h1
    · exact h1
    · exact absurd h1.1 (h.shun _ ad hl hF)
  have hlow:∀ {e a ad},touchAt t e=some a->AtL a.loc ad->ad.block < W.heap.size:=fun {e a ad} ha hl=>by
    obtain ⟨op,ho,hop⟩:=touch_of ha;have:=h.past.seen op (mem_of_getElem? ho);obtain ⟨g,fn,pos,act⟩:=op;cases act with
    | access ev =>
      simp only [MemAct.touch?] at hop;cases hop;simp only [MemAct.low] at this;simp only at hl;generalize ev.loc=l at this hl;cases hl<;>exact this
    | mark m =>
      cases m<;>simp only [MemAct.touch?] at hop<;>first | (cases hop;done) | (cases hop;simp only at hl;cases hl;exact this)
    | _=>simp only [MemAct.touch?] at hop;cases hop
  have hnov:NoView (Ji C { w with heap:=w.heap.push YK }):=fun b a u e=>by
    by_cases hbC:b=C
    · subst hbC;rw [Quy (by simp;omega)] at e;cases e
    · rw [Qjp hbC] at e;exact (h.nov.rel (Qxy w)) b a u e
  refine ⟨⟨fun i x hx=>?_,fun i j x y hij hx hy=>?_,h.past.clean,fun e a ha hm=>?_,fun e a ad ha hl hb=>?_,fun e a ad ha hl hb i hq=>?_,fun i j ad hij hi hj=>hij (hi.1.trans hj.1.symm),fun i ad hq=>by rw [hq.1];rfl,fun e g hge hne hc=>.inl (h.past.over e g hge hne hc),fun j hj=>h.lv.above j (by simpa using hj),fun op hop=>?_,fun op hop=>?_,fun i x x0 hx hx0 b hb=>?_,by simp [stA],by simp;omega,by simp [stA];omega⟩,
    ⟨_,rfl,fun b hb hbC=>⟨hb,hbC⟩⟩,rfl,h.past.hears,by simp [hlt,Yn],hr,fun e=>(by cases e),by simp,List.nodup_nil,fun i=>?_,rfl,List.nodup_nil,fun i hi=>(by cases hi),fun i gi hi hgi=>?_,fun i hi=>(by cases hi),fun ad had _=>⟨rfl,had⟩,?_,rfl,fun _ _=>rfl,fun b h=>h.elim,fun i x hx b hb=>?_,by simp,fun b hb _=>hpush b hb,⟨rfl,rfl,rfl⟩,Nat.le_refl _,hFC,?_⟩
  · by_cases hi:i=0
    · subst hi;rw [if_pos rfl] at hx;cases hx;refine ⟨by simpa using hlt,hagr,hnov,fun b hb=>by have:=h.bnd b hb.1;simp;omega,fun b hb hF=>?_,fun e a ad ha hl hF _=>hown e a ad ha hl hF.1,fun e a ad ha hl hz=>hz.elim⟩;rcases hb with rfl | rfl
      · have:=h.bnd _ hF.1;simp [stA] at this
      · exact hF.2 rfl
    · rw [if_neg hi] at hx;cases hx
  · by_cases hi:i=0
    · subst hi;rw [if_neg (Ne.symm hij)] at hy;cases hy
    · rw [if_neg hi] at hx;cases hx
  · rcases h.past.known e a ha hm with h1 | h1
    · exact .inl h1
    · exact .inr (.inl h1)
  · have:=hlow ha hl;simp [stA] at hb;omega
  · have:=hown e a ad ha hl (hb▸hFC);rw [hq.1];exact this
  · exact MemAct.low_mono (by simp) (h.past.seen op hop)
  · intro e;have:=h.past.seen op hop;rw [e] at this;simp [MemAct.low,stA] at this
  · by_cases hi:i=0
    · subst hi;rw [if_pos rfl] at hx;cases hx;exact hb.elim
    · rw [if_neg hi] at hx;cases hx
  · by_cases hi:i=0
    · simp [hi]
    · simp [hi]
  · rw [Array.getElem?_setIfInBounds_ne (Ne.symm hi)] at hgi;have hlti:=(Array.getElem?_eq_some_iff.1 hgi).1;refine ⟨nt (q i),by simp [hlti],?_⟩;rw [if_neg hi];exact ⟨q i,rfl,h.lv.old i gi (by omega) hgi⟩
  · show (W.heap.push _)[C]?=_;rw [hpush C hCW];exact hrow
  · by_cases hi:i=0
    · subst hi;rw [if_pos rfl] at hx;cases hx;exact .inl hb.1
    · rw [if_neg hi] at hx;cases hx
  · refine ⟨?_,fun i hi=>(by cases hi),rfl⟩;show (W.heap.push (wgBlock ty 0 0))[W.heap.size]?=_;rw [Array.getElem?_push,if_pos rfl];simp

theorem QFx (hrun:g.status=.running) (hC:w.heap[C]?=some (.cells cs0 et (0,0))) (hN:cs0.size+1 < 2147483647) (gn:Nat->Goroutine) (hst:∀ W,stepG P true g W=.go (gn W.heap.size) { W with heap:=W.heap.push (wgBlock ty 0 0) } #[])
  (hQW:∀ Wg w1,Rel w w1->w.heap.size<=Wg->Wg < w1.heap.size->QW P ty Wg C cs0.size Wg et cs0 S 0 (fun _=>False) (fun _=>none) [] (gn Wg) (Ji C w1)) :
  ∀ w1,Rel w w1->(Jm P).Ph g w1 S:=by
 intro w1 hr Sh F gs W sl t q h h0;have hCr:∀ w1,Rel w w1->w1.heap[C]?=some (.cells cs0 et (0,0)):=fun w1 hr=>by rw [hr.block C (Array.getElem?_eq_some_iff.1 hC).1];exact hC
 have key:∀ N w1,Rel w w1->∀ gs W sl t q,sumTo gs.size q<=N->MI P Sh F w1 gs W t q->gs[0]?=some g->Reach P (fun gs' W' t'=>∃ Sh',Fin0 P Sh' S F W gs' W' t') gs W sl t:=by
  intro N;have fin:∀ w1,Rel w w1->∀ gs W sl t q,MI P Sh F w1 gs W t q->gs[0]?=some g->∀ (d:Nat) (sl':Option (Nat×Nat)),stepT P (crowd gs W sl)=runT P (crowd gs (W.at d) sl') 0->Reach P (fun gs' W' t'=>∃ Sh',Fin0 P Sh' S F W gs' W' t') gs W sl t:=by
   intro w1 hr gs W sl t q h h0 d sl' hst';have h':=h.at d;have hr2:=hr.trans (JR w1 d);have hs1:=hr2.size;have hs2:=h'.agr.size;have hQ:=hQW (W.at d).heap.size { w1.at d with heap:=(w1.at d).heap.push YK } (hr2.trans (Qxy _)) (by omega) (by simp;omega);have hgr:(gn (W.at d).heap.size).status=.running:=hQ.running;have hrun':=runT_crowd_go (P:=P) (sl:=sl') (i:=0) h0 (show stepG P (0 == 0) g (W.at d)=_ from hst (W.at d));rw [h'.woken h0 hrun,QMi] at hrun';have hc:=h'.grp (ty:=ty) (g':=gn (W.at d).heap.size) h0 hgr (hCr _ hr2);refine Reach.step (hst'.trans hrun') ?_;simp only [Array.append_empty];exact (QFy hN (fun l ad hl hs=>⟨h'.shlt l ad hl hs,fun hF=>h'.shun l ad hl hF hs⟩) hQ (Nat.zero_le _) _ (Rel.refl _) _ _ _ _ _ _ _ _ _ _ _ _ hc).mono fun gs2 W2 t2 h5=>⟨_,h5.back (Went.at F W d)⟩
  induction N with
  | zero =>
   intro w1 hr gs W sl t q hN h h0;obtain ⟨i,gi,d,sl',hi,hri,hst'⟩:=crowd_pick (P:=P) (w:=W) (sl:=sl) (h.awake h0 hrun) ⟨0,g,h0,hrun⟩;by_cases hi0:i=0
   ·subst hi0;exact fin w1 hr gs W sl t q h h0 d sl' hst'
   ·obtain ⟨ops,gs',q',h1,h2,h3,h4⟩:=(h.at d).slip h0 hrun hi hi0 hri sl';omega
  | succ N ihN =>
   intro w1 hr gs W sl t q hN h h0;obtain ⟨i,gi,d,sl',hi,hri,hst'⟩:=crowd_pick (P:=P) (w:=W) (sl:=sl) (h.awake h0 hrun) ⟨0,g,h0,hrun⟩;by_cases hi0:i=0
   ·subst hi0;exact fin w1 hr gs W sl t q h h0 d sl' hst'
   ·obtain ⟨ops,gs',q',h1,h2,h3,h4⟩:=(h.at d).slip h0 hrun hi hi0 hri sl';exact Reach.step (hst'.trans h1) ((ihN _ (hr.trans (JR w1 d)) gs' (W.at d) sl' _ q' (by omega) h4 h2).mono fun gs2 W2 t2 ⟨Sh',h5⟩=>⟨Sh',h5.back (Went.at F W d)⟩)
 exact key _ w1 hr gs W sl t q (Nat.le_refl _) h h0
theorem QW.of {Wg N Low:Nat} {Z:Nat->Prop} {orig:Nat->Option Obj} {pd:Nat} {O:List (Nat×(Value->World->Prop))} (h:Wlk (Jp P Z) (fun g w=>QW P ty Wg C N Low et cs0 S pd Z orig O g w) g w):QW P ty Wg C N Low et cs0 S pd Z orig O g w:=by
 induction h with
 | stop h=>exact h _ (Rel.refl _)
 | step nx hs h1 h2 ih=>exact .step nx hs h1 ih
 | phase S' hs h1 h2 ih=>exact (h1 _ (Rel.refl _)).elim
end
end Go.Gw

end
section
set_option linter.unusedVariables false
namespace Go.Gw
open Go Go.Conc Go.Conc.Lib
open Go.ConcR (KK wgBlock WgAt stA smA rd wr mk DC0)
section
variable {P:Program} {ty:TypeId} {Wg:Nat}
theorem Qlh:∀ {n d:Nat} {g:Goroutine},QuitsD P n d g->QuitsD P (n+1) d g
 | 0,_,_,h=>.inl h
 | n+1,_,_,h=>h.elim .inl fun ⟨hs,g',es,hm,hst,hq⟩=>.inr ⟨hs,g',es,hm,hst,Qlh hq⟩
theorem LW.mono1:∀ {m:Nat} {s:Stg} {g:Goroutine},LW P ty Wg m s g->LW P ty Wg (m+1) s g
 | 0,_,_,h=>h.elim
 | m+1,s,g,⟨hr,h⟩=>by
  refine ⟨hr,h.imp (fun h W hW=>?_) fun h=>?_⟩
  ·obtain ⟨g',h1,h2⟩:=h W hW;exact ⟨g',h1,LW.mono1 h2⟩
  ·cases s with
   | A=>obtain ⟨g',h1,h2⟩:=h;exact ⟨g',h1,LW.mono1 h2⟩
   | B=>obtain ⟨g',h1,h2⟩:=h;exact ⟨g',h1,LW.mono1 h2⟩
   | C =>
    intro v wt h1 h2;obtain ⟨g',h3,h4,h5⟩:=h v wt h1 h2;exact ⟨g',h3,fun hc=>LW.mono1 (h4 hc),fun hc=>Qlh (h5 hc)⟩
   | D2=>obtain ⟨g',h1,h2⟩:=h;exact ⟨g',h1,LW.mono1 h2⟩
   | D3=>obtain ⟨g',h1,h2⟩:=h;exact ⟨g',h1,LW.mono1 h2⟩
   | D4=>obtain ⟨h0,g',h1,h2⟩:=h;exact ⟨h0,g',h1,Qlh h2⟩
theorem MA.mono1 {gE:Goroutine}:∀ {m:Nat} {s:AS} {g:Goroutine},MA P ty Wg gE m s g->MA P ty Wg gE (m+1) s g
 | 0,_,_,h=>.inl h
 | m+1,s,g,h=>by
  refine h.imp id fun ⟨hr,h⟩=>⟨hr,h.imp (fun h W hW=>?_) fun h=>?_⟩
  ·obtain ⟨g',h1,h2⟩:=h W hW;exact ⟨g',h1,MA.mono1 h2⟩
  ·cases s with
   | K=>obtain ⟨g',h1,h2⟩:=h;exact ⟨g',h1,MA.mono1 h2⟩
   | P1 =>
    intro v hv;obtain ⟨g',h1,h2⟩:=h v hv;exact ⟨g',h1,MA.mono1 h2⟩
   | P2=>exact h.imp (fun ⟨g',h1,h2⟩=>⟨g',h1,MA.mono1 h2⟩) fun ⟨g',h1,h2⟩=>⟨g',h1,MA.mono1 h2⟩
   | E=>exact h
theorem MW.mono1 {An:Goroutine->Prop} {gE:Goroutine}:∀ {m:Nat} {s:BS} {g:Goroutine},MW P ty Wg An gE m s g->MW P ty Wg An gE (m+1) s g
 | 0,_,_,h=>.inl h
 | m+1,s,g,h=>by
  refine h.imp id fun ⟨hr,h⟩=>⟨hr,h.imp (fun h W hW=>?_) fun h=>?_⟩
  ·obtain ⟨g',h1,h2⟩:=h W hW;exact ⟨g',h1,MW.mono1 h2⟩
  ·cases s with
   | K=>obtain ⟨g',h1,h2⟩:=h;exact ⟨g',h1,MW.mono1 h2⟩
   | L =>
    intro v hv;obtain ⟨g',h1,h2,h3⟩:=h v hv;exact ⟨g',h1,fun e=>MW.mono1 (h2 e),fun e=>MW.mono1 (h3 e)⟩
   | Cs v =>
    obtain ⟨⟨g1,h1,h2⟩,h3⟩:=h;refine ⟨⟨g1,h1,MW.mono1 h2⟩,fun u hu1 hu2=>?_⟩;obtain ⟨g2,h4,h5⟩:=h3 u hu1 hu2;exact ⟨g2,h4,MW.mono1 h5⟩
   | R=>exact h
   | X=>obtain ⟨g',h1,h2⟩:=h;exact ⟨g',h1,MW.mono1 h2⟩
   | S=>obtain ⟨h0,h1,g',h2,h3⟩:=h;exact ⟨h0,h1,g',h2,MW.mono1 h3⟩
   | F=>obtain ⟨g',h1,h2⟩:=h;exact ⟨g',h1,MW.mono1 h2⟩
   | E=>obtain ⟨g',h1,h2⟩:=h;exact ⟨g',h1,MW.mono1 h2⟩
   | Q=>obtain ⟨g',h1,h2⟩:=h;exact ⟨g',h1,MW.mono1 h2⟩
   | Z=>exact h
def RL (ty:TypeId) (Wg:Nat) (w w1:World):Prop:=Live ty Wg w->Live ty Wg w1
theorem rl {w w1:World} (h:Live ty Wg w) (r:RL ty Wg w w1):Live ty Wg w1:=r h
theorem Live.cell0 {w:World} (h:Live ty Wg w):∃ v,w.cell? ⟨Wg,0,none⟩=some v:=let ⟨_,_,x⟩:=h;⟨_,x.cellSt⟩
theorem Live.cell1 {w:World} (h:Live ty Wg w):∃ v,w.cell? ⟨Wg,1,none⟩=some v:=let ⟨_,_,x⟩:=h;⟨_,x.cellSm⟩
theorem YV (ty:TypeId) (Wg:Nat):∃ w,Live ty Wg w:=by
 refine ⟨{ (default:World) with heap:=(Array.replicate Wg YK).push (wgBlock ty 0 0) },0,0,?_⟩;unfold WgAt;rw [Array.getElem?_push,if_pos (by simp)]
theorem LW.goes {s:Stg} {m:Nat}:∀ {n:Nat} {g:Goroutine} {w:World},Live ty Wg w->Goes P false (RL ty Wg) DC0 (fun g _=>LW P ty Wg m s g) n g w->LW P ty Wg (m+n) s g
 | 0,g,w,hL,h=>h w fun h=>h
 | n+1,g,w,hL,h=>by
  rcases h with h | ⟨hr,h⟩
  ·exact (LW.goes (n:=n) hL (Goes.stop h)).mono1
  ·refine ⟨hr,.inl fun W hW=>?_⟩;have:=h W fun _=>hW
   cases hs:stepG P false g W with
   | go g' w' es =>
    rw [hs] at this;simp only [goes_go] at this;obtain ⟨⟨rfl,rfl⟩,h2⟩:=this;exact ⟨g',rfl,LW.goes hW h2⟩
   | _=>rw [hs] at this;exact this.elim
theorem MA.goes {gE:Goroutine} {s:AS} {m:Nat}:∀ {n:Nat} {g:Goroutine} {w:World},Live ty Wg w->Goes P true (RL ty Wg) DC0 (fun g _=>MA P ty Wg gE m s g) n g w->MA P ty Wg gE (m+n) s g
 | 0,g,w,hL,h=>h w fun h=>h
 | n+1,g,w,hL,h=>by
  rcases h with h | ⟨hr,h⟩
  ·exact (MA.goes (n:=n) hL (Goes.stop h)).mono1
  ·refine .inr ⟨hr,.inl fun W hW=>?_⟩;have:=h W fun _=>hW
   cases hs:stepG P true g W with
   | go g' w' es =>
    rw [hs] at this;simp only [goes_go] at this;obtain ⟨⟨rfl,rfl⟩,h2⟩:=this;exact ⟨g',rfl,MA.goes hW h2⟩
   | _=>rw [hs] at this;exact this.elim
theorem MW.goes {An:Goroutine->Prop} {gE:Goroutine} {s:BS} {m:Nat}:∀ {n:Nat} {g:Goroutine} {w:World},Live ty Wg w->Goes P true (RL ty Wg) DC0 (fun g _=>MW P ty Wg An gE m s g) n g w->MW P ty Wg An gE (m+n) s g
 | 0,g,w,hL,h=>h w fun h=>h
 | n+1,g,w,hL,h=>by
  rcases h with h | ⟨hr,h⟩
  ·exact (MW.goes (n:=n) hL (Goes.stop h)).mono1
  ·refine .inr ⟨hr,.inl fun W hW=>?_⟩;have:=h W fun _=>hW
   cases hs:stepG P true g W with
   | go g' w' es =>
    rw [hs] at this;simp only [goes_go] at this;obtain ⟨⟨rfl,rfl⟩,h2⟩:=this;exact ⟨g',rfl,MW.goes hW h2⟩
   | _=>rw [hs] at this;exact this.elim

variable {m:Nat} {g g':Goroutine}
theorem LW.relA (hs:g.status=.running) (h:∀ W,Live ty Wg W->stepG P false g W=.go g' W #[Go.ConcR.mk (.releaseMerge (stA Wg))]) (k:LW P ty Wg m .B g'):LW P ty Wg (m+1) .A g:=⟨hs,.inr ⟨g',h,k⟩⟩
theorem LW.disB (hs:g.status=.running) (h:∀ W,Live ty Wg W->stepG P false g W=.go g' W #[Go.ConcR.mk .disable]) (k:LW P ty Wg m .C g'):LW P ty Wg (m+1) .B g:=⟨hs,.inr ⟨g',h,k⟩⟩
theorem LW.d2 (hs:g.status=.running) (h:∀ W,WgAt ty Wg W 1 0->stepG P false g W=.go g' W #[rd (stA Wg)]) (k:LW P ty Wg m .D3 g'):LW P ty Wg (m+1) .D2 g:=⟨hs,.inr ⟨g',h,k⟩⟩
theorem LW.d3 (hs:g.status=.running) (h:∀ W,WgAt ty Wg W 1 0->stepG P false g W=.go g' (W.setCell (stA Wg) (.int .u64 0)) #[wr (stA Wg)]) (k:LW P ty Wg m .D4 g'):LW P ty Wg (m+1) .D3 g:=⟨hs,.inr ⟨g',h,k⟩⟩
theorem LW.d4 (hs:g.status=.running) (hm:mayWake P g=true) (h:∀ W,WgAt ty Wg W 0 0->stepG P false g W=.go g' (W.setCell (smA Wg) (.int .u32 1)) (semEvents (smA Wg))) (k:QuitsD P m 1 g'):LW P ty Wg (m+1) .D4 g:=⟨hs,.inr ⟨hm,g',h,k⟩⟩
end
end Go.Gw

end
section
set_option linter.unusedVariables false
set_option linter.unusedSimpArgs false
namespace Go.Gw
open Go Go.Conc Go.RowKit Go.Conc.Lib Go.ConcR.Gen Go.ConcN
open Go.ConcR (KK wgBlock WgAt stA smA rd wr DC0)
structure Pk (p:Prop):Prop where
 out:p
theorem Qhg {P:Program} {q d:Nat} {g:Goroutine}:∀ k:Nat,QuitsD P q d g->QuitsD P (q+k) d g
 | 0,h=>h
 | k+1,h=>Qlh (Qhg k h)
theorem LW.addC {P:Program} {ty:TypeId} {Wg m:Nat} {g:Goroutine} (hs:g.status=.running) (h:∀ v wt:Nat,wt<=1->v < 2147483647->∃ g',(∀ W,WgAt ty Wg W (((v+1:Nat):Int) * KK+(wt:Int)) 0->stepG P false g W=.go g' (W.setCell (stA Wg) (.int .u64 ((v:Int) * KK+(wt:Int)))) #[rd (stA Wg),wr (stA Wg)]) /\
  ((v=0/\wt=1)->LW P ty Wg m .D2 g')/\(¬ (v=0/\wt=1)->QuitsD P m 1 g')):LW P ty Wg (m+1) .C g:=⟨hs,.inr h⟩
set_option maxRecDepth 100000 in
set_option maxHeartbeats 8000000 in
theorem QIv {P:Program} {L:WgLink} (H:WgLib P L) {Wg:Nat} {b₀:Frame} {a₀:Act} {ops₀:Array Oper} {i₀:Nat} {rest₀:List Nat} {k₀:List Item} {cs:List Frame} {qt:Nat} (hT:QuitsD P qt 0 (G (b₀.at (a₀.put ((ops₀[i₀]?).bind (·.dst)) (.tuple #[])) (.inRegion ops₀ rest₀::k₀)) cs)) :
  LW P L.tWg Wg (qt+1000) .A (G ((base L.add).at ⟨#[.pointer (some ⟨Wg,0,none⟩),.int .i64 (-1),undef,undef,undef,undef,undef,undef,undef,undef,undef,undef,undef,undef,undef,undef,undef,undef,undef,undef,undef,undef,undef,undef,undef,undef,undef,undef,undef,undef,undef,undef,undef,undef,undef,undef,undef,undef,undef,undef,undef,undef,undef,undef,undef,undef,undef,undef,undef,undef,undef,undef,undef,undef,undef,undef,undef,undef,undef,undef,undef,undef,undef,undef,undef,undef,undef,undef,undef,undef,undef,undef,undef,undef,undef,undef,undef,undef,undef,undef,undef,undef,undef,undef,undef,undef,undef,undef,undef,undef,undef,undef,undef,undef,undef,undef,undef,undef,undef,undef,undef,undef,undef,undef,undef,undef,undef,undef,undef,undef,undef,undef,undef,undef,undef,undef,undef],[]⟩ [.code (ConcR.Gen.body_add L)]) (b₀.at a₀ (.inRegion ops₀ (i₀::rest₀)::k₀)::cs)):=by
 lib_facts
 simp only [ConcR.Gen.body_add,addFn,Option.getD_some];obtain ⟨w,hK⟩:=YV L.tWg Wg;refine LW.goes (m:=qt+987) (n:=13) hK ?_
 u_c stepG_seq rl hK
 u_cond true rl hK
 u_c stepG_seq rl hK
 u_c stepG_seq rl hK
 u_reg rl hK
 u_op rl hK
 u_op rl hK
 u_c stepG_region_end rl hK
 u_cond true rl hK
 u_reg rl hK
 u_op rl hK
 u_conv H.underlying_tWgP H.room_tWg (Live.cell0 hK).choose_spec rl hK
 refine Goes.stop (fun w₁ h₁=>?_);clear h₁ hK w w₁;refine LW.relA rfl (fun W hW=>stepG_markAt .releaseMerge (by simp) rfl rfl (by k_ne) rfl H.f_relMerge (x_relMerge_n L) (x_relMerge_b L) (x_relMerge_x L) (x_relMerge_f L) (by simp [Act.eval,stA])) ?_
 walk_nrm
 obtain ⟨w,hK⟩:=YV L.tWg Wg;refine LW.goes (m:=qt+982) (n:=4) hK ?_
 u_c stepG_region_end rl hK
 u_c stepG_seq rl hK
 u_reg rl hK
 refine Goes.stop (fun w₁ h₁=>?_);clear h₁ hK w w₁;refine LW.disB rfl (fun W hW=>stepG_mark0 .disable (by simp) rfl rfl (by k_ne) rfl H.f_disable (x_disable_n L) (x_disable_b L) (x_disable_x L) (x_disable_f L)) ?_
 walk_nrm
 obtain ⟨w,hK⟩:=YV L.tWg Wg;refine LW.goes (m:=qt+946) (n:=35) hK ?_
 u_c stepG_region_end rl hK
 u_reg rl hK
 u_defer rl hK
 u_c stepG_region_end rl hK
 u_c stepG_seq rl hK
 u_reg rl hK
 u_op rl hK
 u_c stepG_region_end rl hK
 u_c stepG_seq rl hK
 u_c stepG_seq rl hK
 u_reg rl hK
 u_bub rl hK
 u_c stepG_region_end rl hK
 u_cond false rl hK
 u_c stepG_skip rl hK
 u_c stepG_seq rl hK
 u_reg rl hK
 u_op rl hK
 u_op rl hK
 u_op rl hK
 u_op rl hK
 u_op rl hK
 u_op rl hK
 u_call H.f_uAdd (nm_uAdd L) uAddFn rl hK
 u_c stepG_seq rl hK
 u_reg rl hK
 u_op rl hK
 u_c stepG_region_end rl hK
 u_c stepG_seq rl hK
 u_reg rl hK
 u_op rl hK
 u_op rl hK
 u_op rl hK
 u_op rl hK
 refine Goes.stop (fun w₁ h₁=>?_);clear h₁ hK w w₁;refine LW.addC rfl fun v wt hwt hv=>?_;rcases Nat.eq_zero_or_pos v with rfl | hvp<;>(obtain rfl | rfl:wt=0\/wt=1:=by omega)
 ·skip
  have e0:IntKind.u64.wrap (KK+18446744069414584320)=0:=by decide
  have k0:∀ {W:World},WgAt L.tWg Wg W (((0+1:Nat):Int) * KK+((0:Nat):Int)) 0->WgAt L.tWg Wg W KK 0:=fun hw=>by simpa using hw
  refine ⟨_,fun W hw=>(stepG_add_atomic (v:=KK) rfl rfl (by k_ne) rfl H.f_addU64 (x_addU64_n L) (x_addU64_b L) (x_addU64_x L) .u64 (x_addU64_f L) rfl rfl (WgAt.cellSt (k0 hw)) (WgAt.thaw (k0 hw) 0)).trans (by rw [e0];rfl),fun h=>absurd h.2 (by decide),fun _=>?_⟩
  walk_nrm
  refine QuitsD.value ?_ rfl rfl (by k_ne) (fun _=>?_) (fun _=>?_) ?_
  rotate_left
  ·go_simp
   try w_num
   rfl
  ·simp [go_sem, *]
  walk_nrm
  q_c stepG_region_end
  q_c stepG_ret'
  q_leave1 H.f_uAdd
  refine QuitsD.value ?_ rfl rfl (by k_ne) (fun _=>?_) (fun _=>?_) ?_
  rotate_left
  ·go_simp
   try w_num
   rfl
  ·simp [go_sem, *]
  walk_nrm
  q_c stepG_region_end
  q_c stepG_seq
  q_c stepG_seq
  q_reg
  refine QuitsD.value ?_ rfl rfl (by k_ne) (fun _=>?_) (fun _=>?_) ?_
  rotate_left
  ·go_simp
   try w_num
   rfl
  ·simp [go_sem, *]
  walk_nrm
  refine QuitsD.value ?_ rfl rfl (by k_ne) (fun _=>?_) (fun _=>?_) ?_
  rotate_left
  ·go_simp
   try w_num
   rfl
  ·simp [go_sem, *]
  walk_nrm
  refine QuitsD.value ?_ rfl rfl (by k_ne) (fun _=>?_) (fun _=>?_) ?_
  rotate_left
  ·go_simp
   try w_num
   rfl
  ·simp [go_sem, *]
  walk_nrm
  refine QuitsD.value ?_ rfl rfl (by k_ne) (fun _=>?_) (fun _=>?_) ?_
  rotate_left
  ·go_simp
   try w_num
   rfl
  ·simp [go_sem, *]
  walk_nrm
  q_skip
  q_skip
  refine QuitsD.value ?_ rfl rfl (by k_ne) (fun _=>?_) (fun _=>?_) ?_
  rotate_left
  ·go_simp
   try w_num
   rfl
  ·simp [go_sem, *]
  walk_nrm
  q_c stepG_region_end
  q_cond false
  q_c stepG_skip
  q_c stepG_seq
  q_reg
  refine QuitsD.value ?_ rfl rfl (by k_ne) (fun _=>?_) (fun _=>?_) ?_
  rotate_left
  ·go_simp
   try w_num
   rfl
  ·simp [go_sem, *]
  walk_nrm
  refine QuitsD.value ?_ rfl rfl (by k_ne) (fun _=>?_) (fun _=>?_) ?_
  rotate_left
  ·go_simp
   try w_num
   rfl
  ·simp [go_sem, *]
  walk_nrm
  refine QuitsD.value ?_ rfl rfl (by k_ne) (fun _=>?_) (fun _=>?_) ?_
  rotate_left
  ·go_simp
   try w_num
   rfl
  ·simp [go_sem, *]
  walk_nrm
  refine QuitsD.value ?_ rfl rfl (by k_ne) (fun _=>?_) (fun _=>?_) ?_
  rotate_left
  ·go_simp
   try w_num
   rfl
  ·simp [go_sem, *]
  walk_nrm
  q_c stepG_region_end
  q_c stepG_seq
  q_reg
  refine QuitsD.value ?_ rfl rfl (by k_ne) (fun _=>?_) (fun _=>?_) ?_
  rotate_left
  ·go_simp
   try w_num
   rfl
  ·simp [go_sem, *]
  walk_nrm
  refine QuitsD.value ?_ rfl rfl (by k_ne) (fun _=>?_) (fun _=>?_) ?_
  rotate_left
  ·go_simp
   try w_num
   rfl
  ·simp [go_sem, *]
  walk_nrm
  refine QuitsD.value ?_ rfl rfl (by k_ne) (fun _=>?_) (fun _=>?_) ?_
  rotate_left
  ·go_simp
   try w_num
   rfl
  ·simp [go_sem, *]
  walk_nrm
  refine QuitsD.value ?_ rfl rfl (by k_ne) (fun _=>?_) (fun _=>?_) ?_
  rotate_left
  ·go_simp
   try w_num
   rfl
  ·simp [go_sem, *]
  walk_nrm
  q_c stepG_region_end
  q_c stepG_seq
  q_c stepG_seq
  q_reg
  refine QuitsD.value ?_ rfl rfl (by k_ne) (fun _=>?_) (fun _=>?_) ?_
  rotate_left
  ·go_simp
   try w_num
   rfl
  ·simp [go_sem, *]
  walk_nrm
  refine QuitsD.value ?_ rfl rfl (by k_ne) (fun _=>?_) (fun _=>?_) ?_
  rotate_left
  ·go_simp
   try w_num
   rfl
  ·simp [go_sem, *]
  walk_nrm
  refine QuitsD.value ?_ rfl rfl (by k_ne) (fun _=>?_) (fun _=>?_) ?_
  rotate_left
  ·go_simp
   try w_num
   rfl
  ·simp [go_sem, *]
  walk_nrm
  refine QuitsD.value ?_ rfl rfl (by k_ne) (fun _=>?_) (fun _=>?_) ?_
  rotate_left
  ·go_simp
   try w_num
   rfl
  ·simp [go_sem, *]
  walk_nrm
  refine QuitsD.value ?_ rfl rfl (by k_ne) (fun _=>?_) (fun _=>?_) ?_
  rotate_left
  ·go_simp
   try w_num
   rfl
  ·simp [go_sem, *]
  walk_nrm
  q_skip
  q_skip
  q_skip
  q_skip
  refine QuitsD.value ?_ rfl rfl (by k_ne) (fun _=>?_) (fun _=>?_) ?_
  rotate_left
  ·go_simp
   try w_num
   rfl
  ·simp [go_sem, *]
  walk_nrm
  q_c stepG_region_end
  q_cond false
  q_c stepG_skip
  q_c stepG_seq
  q_c stepG_seq
  q_reg
  refine QuitsD.value ?_ rfl rfl (by k_ne) (fun _=>?_) (fun _=>?_) ?_
  rotate_left
  ·go_simp
   try w_num
   rfl
  ·simp [go_sem, *]
  walk_nrm
  refine QuitsD.value ?_ rfl rfl (by k_ne) (fun _=>?_) (fun _=>?_) ?_
  rotate_left
  ·go_simp
   try w_num
   rfl
  ·simp [go_sem, *]
  walk_nrm
  q_c stepG_region_end
  q_cond false
  q_c stepG_skip
  q_c stepG_seq
  q_c stepG_seq
  q_reg
  refine QuitsD.value ?_ rfl rfl (by k_ne) (fun _=>?_) (fun _=>?_) ?_
  rotate_left
  ·go_simp
   try w_num
   rfl
  ·simp [go_sem, *]
  walk_nrm
  refine QuitsD.value ?_ rfl rfl (by k_ne) (fun _=>?_) (fun _=>?_) ?_
  rotate_left
  ·go_simp
   try w_num
   rfl
  ·simp [go_sem, *]
  walk_nrm
  refine QuitsD.value ?_ rfl rfl (by k_ne) (fun _=>?_) (fun _=>?_) ?_
  rotate_left
  ·go_simp
   try w_num
   rfl
  ·simp [go_sem, *]
  walk_nrm
  q_skip
  q_skip
  refine QuitsD.value ?_ rfl rfl (by k_ne) (fun _=>?_) (fun _=>?_) ?_
  rotate_left
  ·go_simp
   try w_num
   rfl
  ·simp [go_sem, *]
  walk_nrm
  refine QuitsD.value ?_ rfl rfl (by k_ne) (fun _=>?_) (fun _=>?_) ?_
  rotate_left
  ·go_simp
   try w_num
   rfl
  ·simp [go_sem, *]
  walk_nrm
  q_skip
  q_skip
  q_skip
  q_skip
  refine QuitsD.value ?_ rfl rfl (by k_ne) (fun _=>?_) (fun _=>?_) ?_
  rotate_left
  ·go_simp
   try w_num
   rfl
  ·simp [go_sem, *]
  walk_nrm
  q_c stepG_region_end
  q_cond false
  q_c stepG_skip
  q_c stepG_seq
  q_c stepG_seq
  q_reg
  refine QuitsD.value ?_ rfl rfl (by k_ne) (fun _=>?_) (fun _=>?_) ?_
  rotate_left
  ·go_simp
   try w_num
   rfl
  ·simp [go_sem, *]
  walk_nrm
  refine QuitsD.value ?_ rfl rfl (by k_ne) (fun _=>?_) (fun _=>?_) ?_
  rotate_left
  ·go_simp
   try w_num
   rfl
  ·simp [go_sem, *]
  walk_nrm
  refine QuitsD.value ?_ rfl rfl (by k_ne) (fun _=>?_) (fun _=>?_) ?_
  rotate_left
  ·go_simp
   try w_num
   rfl
  ·simp [go_sem, *]
  walk_nrm
  refine QuitsD.value ?_ rfl rfl (by k_ne) (fun _=>?_) (fun _=>?_) ?_
  rotate_left
  ·go_simp
   try w_num
   rfl
  ·simp [go_sem, *]
  walk_nrm
  refine QuitsD.value ?_ rfl rfl (by k_ne) (fun _=>?_) (fun _=>?_) ?_
  rotate_left
  ·go_simp
   try w_num
   rfl
  ·simp [go_sem, *]
  walk_nrm
  refine QuitsD.value ?_ rfl rfl (by k_ne) (fun _=>?_) (fun _=>?_) ?_
  rotate_left
  ·go_simp
   try w_num
   rfl
  ·simp [go_sem, *]
  walk_nrm
  q_c stepG_region_end
  q_cond true
  q_c stepG_ret'
  q_enable
  q_leave0 H.f_add
  exact Qhg 856 hT
 ·skip
  have e0:IntKind.u64.wrap (KK+1+18446744069414584320)=1:=by decide
  have k0:∀ {W:World},WgAt L.tWg Wg W (((0+1:Nat):Int) * KK+((1:Nat):Int)) 0->WgAt L.tWg Wg W (KK+1) 0:=fun hw=>by simpa using hw
  refine ⟨_,fun W hw=>(stepG_add_atomic (v:=KK+1) rfl rfl (by k_ne) rfl H.f_addU64 (x_addU64_n L) (x_addU64_b L) (x_addU64_x L) .u64 (x_addU64_f L) rfl rfl (WgAt.cellSt (k0 hw)) (WgAt.thaw (k0 hw) 0)).trans (by rw [e0];rfl),fun _=>?_,fun h=>absurd ⟨rfl,rfl⟩ h⟩
  walk_nrm
  obtain ⟨w,hK⟩:=YV L.tWg Wg;refine LW.goes (m:=qt+841) (n:=104) hK ?_
  u_op rl hK
  u_c stepG_region_end rl hK
  u_c stepG_ret' rl hK
  u_leave1 H.f_uAdd rl hK
  u_op rl hK
  u_c stepG_region_end rl hK
  u_c stepG_seq rl hK
  u_c stepG_seq rl hK
  u_reg rl hK
  u_op rl hK
  u_op rl hK
  u_op rl hK
  u_op rl hK
  u_skip rl hK
  u_skip rl hK
  u_op rl hK
  u_c stepG_region_end rl hK
  u_cond false rl hK
  u_c stepG_skip rl hK
  u_c stepG_seq rl hK
  u_reg rl hK
  u_op rl hK
  u_op rl hK
  u_op rl hK
  u_op rl hK
  u_c stepG_region_end rl hK
  u_c stepG_seq rl hK
  u_reg rl hK
  u_op rl hK
  u_op rl hK
  u_op rl hK
  u_op rl hK
  u_c stepG_region_end rl hK
  u_c stepG_seq rl hK
  u_c stepG_seq rl hK
  u_reg rl hK
  u_op rl hK
  u_op rl hK
  u_op rl hK
  u_op rl hK
  u_op rl hK
  u_skip rl hK
  u_skip rl hK
  u_skip rl hK
  u_skip rl hK
  u_op rl hK
  u_c stepG_region_end rl hK
  u_cond false rl hK
  u_c stepG_skip rl hK
  u_c stepG_seq rl hK
  u_c stepG_seq rl hK
  u_reg rl hK
  u_op rl hK
  u_op rl hK
  u_c stepG_region_end rl hK
  u_cond false rl hK
  u_c stepG_skip rl hK
  u_c stepG_seq rl hK
  u_c stepG_seq rl hK
  u_reg rl hK
  u_op rl hK
  u_op rl hK
  u_op rl hK
  u_op rl hK
  u_op rl hK
  u_op rl hK
  u_op rl hK
  u_skip rl hK
  u_skip rl hK
  u_skip rl hK
  u_skip rl hK
  u_op rl hK
  u_c stepG_region_end rl hK
  u_cond false rl hK
  u_c stepG_skip rl hK
  u_c stepG_seq rl hK
  u_c stepG_seq rl hK
  u_reg rl hK
  u_op rl hK
  u_op rl hK
  u_op rl hK
  u_op rl hK
  u_op rl hK
  u_op rl hK
  u_c stepG_region_end rl hK
  u_cond false rl hK
  u_c stepG_skip rl hK
  u_c stepG_seq rl hK
  u_c stepG_seq rl hK
  u_reg rl hK
  u_op rl hK
  u_op rl hK
  u_op rl hK
  u_call H.f_uLoad (nm_uLoad L) uLoadFn rl hK
  u_c stepG_seq rl hK
  u_reg rl hK
  u_op rl hK
  u_c stepG_region_end rl hK
  u_c stepG_seq rl hK
  u_reg rl hK
  u_op rl hK
  u_op rl hK
  u_op rl hK
  refine Goes.stop (fun w₁ h₁=>?_);clear h₁ hK w w₁;refine LW.d2 rfl (fun W hw=>stepG_load_atomic (v:=1) rfl rfl (by k_ne) rfl H.f_loadU64 (x_loadU64_n L) (x_loadU64_b L) (x_loadU64_x L) .u64 (x_loadU64_f L) rfl (WgAt.cellSt hw)) ?_
  walk_nrm
  obtain ⟨w,hK⟩:=YV L.tWg Wg;refine LW.goes (m:=qt+819) (n:=21) hK ?_
  u_op rl hK
  u_c stepG_region_end rl hK
  u_c stepG_ret' rl hK
  u_leave1 H.f_uLoad rl hK
  u_op rl hK
  u_op rl hK
  u_c stepG_region_end rl hK
  u_cond false rl hK
  u_c stepG_skip rl hK
  u_c stepG_seq rl hK
  u_reg rl hK
  u_op rl hK
  u_op rl hK
  u_op rl hK
  u_call H.f_uStore (nm_uStore L) uStoreFn rl hK
  u_reg rl hK
  u_op rl hK
  u_op rl hK
  u_op rl hK
  u_op rl hK
  refine Goes.stop (fun w₁ h₁=>?_);clear h₁ hK w w₁;refine LW.d3 rfl (fun W hw=>stepG_store_atomic rfl rfl (by k_ne) rfl H.f_storeU64 (x_storeU64_n L) (x_storeU64_b L) (x_storeU64_x L) (x_storeU64_f L) rfl rfl (WgAt.cellSt hw) (WgAt.thaw hw 0)) ?_
  walk_nrm
  obtain ⟨w,hK⟩:=YV L.tWg Wg;refine LW.goes (m:=qt+790) (n:=28) hK ?_
  u_c stepG_region_end rl hK
  u_c stepG_end rl hK
  u_leave0 H.f_uStore rl hK
  u_c stepG_region_end rl hK
  u_c stepG_seq rl hK
  u_c stepG_seq rl hK
  u_reg rl hK
  u_op rl hK
  u_c stepG_region_end rl hK
  u_cond false rl hK
  u_c stepG_skip rl hK
  u_c stepG_block rl hK
  u_c stepG_loop rl hK
  u_c stepG_seq rl hK
  u_c stepG_seq rl hK
  u_reg rl hK
  u_op rl hK
  u_op rl hK
  u_c stepG_region_end rl hK
  u_cond true rl hK
  u_c stepG_skip rl hK
  u_c stepG_seq rl hK
  u_c stepG_block rl hK
  u_reg rl hK
  u_op rl hK
  u_op rl hK
  u_op rl hK
  refine Goes.stop (fun w₁ h₁=>?_);clear h₁ hK w w₁;refine LW.d4 rfl (mayWake_entry rfl rfl H.f_semrelease (x_semrelease_b L)) (fun W hw=>(stepG_semrelease rfl rfl (by k_ne) rfl H.f_semrelease (x_semrelease_n L) (x_semrelease_b L) (x_semrelease_x L) (x_semrelease_f L) (by simp [Act.eval,smA]) (WgAt.cellSm hw) (WgAt.thaw hw 1)).trans (by rfl)) ?_
  walk_nrm
  q_c stepG_region_end
  q_c stepG_inBlock
  q_reg
  refine QuitsD.value ?_ rfl rfl (by k_ne) (fun _=>?_) (fun _=>?_) ?_
  rotate_left
  ·go_simp
   try w_num
   rfl
  ·simp [go_sem, *]
  walk_nrm
  refine QuitsD.value ?_ rfl rfl (by k_ne) (fun _=>?_) (fun _=>?_) ?_
  rotate_left
  ·go_simp
   try w_num
   rfl
  ·simp [go_sem, *]
  walk_nrm
  refine QuitsD.value ?_ rfl rfl (by k_ne) (fun _=>?_) (fun _=>?_) ?_
  rotate_left
  ·go_simp
   try w_num
   rfl
  ·simp [go_sem, *]
  walk_nrm
  q_c stepG_region_end
  q_c stepG_inLoop
  q_c stepG_seq
  q_c stepG_seq
  q_reg
  refine QuitsD.value ?_ rfl rfl (by k_ne) (fun _=>?_) (fun _=>?_) ?_
  rotate_left
  ·go_simp
   try w_num
   rfl
  ·simp [go_sem, *]
  walk_nrm
  refine QuitsD.value ?_ rfl rfl (by k_ne) (fun _=>?_) (fun _=>?_) ?_
  rotate_left
  ·go_simp
   try w_num
   rfl
  ·simp [go_sem, *]
  walk_nrm
  q_c stepG_region_end
  q_cond false
  q_exit
  q_c stepG_end
  q_enable
  q_leave0 H.f_add
  exact Qhg 770 hT
 ·skip
  have k0:∀ {W:World},WgAt L.tWg Wg W (((v+1:Nat):Int) * KK+((0:Nat):Int)) 0->WgAt L.tWg Wg W (((v:Nat)+1) * KK+0) 0:=fun hw=>by simpa using hw
  obtain ⟨V,hV⟩:∃ V:Int,V=(v:Int):=⟨_,rfl⟩;obtain ⟨S,hS⟩:∃ S:Int,S=V * KK+0:=⟨_,rfl⟩;have z:(v:Int) * KK+((0:Nat):Int)=S:=by rw [hS,hV];simp
  have e0:IntKind.u64.wrap (((v:Nat)+1) * KK+0+18446744069414584320)=S:=by rw [IntKind.wrap_u64,hS,hV];simp only [KK];omega
  rw [z];clear z;have a1:S / 4294967296=V:=by rw [hS];simp only [KK];omega
  have b1:bits .and .u64 S 2147483648=0:=by rw [hS,hV];have:=st_flag v 0 (by omega) (by omega);simpa [KK] using this
  have b2:bits .and .u64 S 2147483647=0:=by rw [hS,hV];have:=st_waiters v 0 (by omega) (by omega);simpa [KK] using this
  have a2:0<=S/\S < 9223372036854775808:=by rw [hS];simp only [KK];omega
  clear hS;have c1:IntKind.i32.wrap V=V:=by rw [IntKind.wrap_i32];omega
  have q3:decide (V < 0)=false:=decide_eq_false (by omega);have q4:decide (0 < V)=true:=decide_eq_true (by omega);have q5:(V == 0)=false:=by simp;omega
  have q6:decide (V=0)=false:=decide_eq_false (by omega);have q7:(V == -1)=false:=by simp;omega
  have q8:decide (V=-1)=false:=decide_eq_false (by omega);refine ⟨_,fun W hw=>(stepG_add_atomic (v:=((v:Nat)+1) * KK+0) rfl rfl (by k_ne) rfl H.f_addU64 (x_addU64_n L) (x_addU64_b L) (x_addU64_x L) .u64 (x_addU64_f L) rfl rfl (WgAt.cellSt (k0 hw)) (WgAt.thaw (k0 hw) 0)).trans (by rw [e0];rfl),fun h=>absurd h.1 (by omega),fun _=>?_⟩;clear hV e0 k0
  walk_nrm
  refine QuitsD.value ?_ rfl rfl (by k_ne) (fun _=>?_) (fun _=>?_) ?_
  rotate_left
  ·go_simp
   try w_num
   rfl
  ·simp [go_sem, *]
  walk_nrm
  q_c stepG_region_end
  q_c stepG_ret'
  q_leave1 H.f_uAdd
  refine QuitsD.value ?_ rfl rfl (by k_ne) (fun _=>?_) (fun _=>?_) ?_
  rotate_left
  ·go_simp
   try w_num
   rfl
  ·simp [go_sem, *]
  walk_nrm
  q_c stepG_region_end
  q_c stepG_seq
  q_c stepG_seq
  q_reg
  refine QuitsD.value ?_ rfl rfl (by k_ne) (fun _=>?_) (fun _=>?_) ?_
  rotate_left
  ·go_simp
   try w_num
   rfl
  ·simp [go_sem, *]
  walk_nrm
  refine QuitsD.value ?_ rfl rfl (by k_ne) (fun _=>?_) (fun _=>?_) ?_
  rotate_left
  ·go_simp
   try w_num
   rfl
  ·simp [go_sem, *]
  walk_nrm
  refine QuitsD.value ?_ rfl rfl (by k_ne) (fun _=>?_) (fun _=>?_) ?_
  rotate_left
  ·go_simp
   try w_num
   rfl
  ·simp [go_sem, *]
  walk_nrm
  refine QuitsD.value ?_ rfl rfl (by k_ne) (fun _=>?_) (fun _=>?_) ?_
  rotate_left
  ·go_simp
   try w_num
   rfl
  ·simp [go_sem, *]
  walk_nrm
  q_skip
  q_skip
  refine QuitsD.value ?_ rfl rfl (by k_ne) (fun _=>?_) (fun _=>?_) ?_
  rotate_left
  ·go_simp
   try w_num
   rfl
  ·simp [go_sem, *]
  walk_nrm
  q_c stepG_region_end
  q_cond false
  q_c stepG_skip
  q_c stepG_seq
  q_reg
  refine QuitsD.value ?_ rfl rfl (by k_ne) (fun _=>?_) (fun _=>?_) ?_
  rotate_left
  ·go_simp
   try w_num
   rfl
  ·simp [go_sem, *]
  walk_nrm
  refine QuitsD.value ?_ rfl rfl (by k_ne) (fun _=>?_) (fun _=>?_) ?_
  rotate_left
  ·go_simp
   try w_num
   rfl
  ·simp [go_sem, *]
  walk_nrm
  refine QuitsD.value ?_ rfl rfl (by k_ne) (fun _=>?_) (fun _=>?_) ?_
  rotate_left
  ·go_simp
   try w_num
   rfl
  ·simp [go_sem, *]
  walk_nrm
  refine QuitsD.value ?_ rfl rfl (by k_ne) (fun _=>?_) (fun _=>?_) ?_
  rotate_left
  ·go_simp
   try w_num
   rfl
  ·simp [go_sem, *]
  walk_nrm
  q_c stepG_region_end
  q_c stepG_seq
  q_reg
  refine QuitsD.value ?_ rfl rfl (by k_ne) (fun _=>?_) (fun _=>?_) ?_
  rotate_left
  ·go_simp
   try w_num
   rfl
  ·simp [go_sem, *]
  walk_nrm
  refine QuitsD.value ?_ rfl rfl (by k_ne) (fun _=>?_) (fun _=>?_) ?_
  rotate_left
  ·go_simp
   try w_num
   rfl
  ·simp [go_sem, *]
  walk_nrm
  refine QuitsD.value ?_ rfl rfl (by k_ne) (fun _=>?_) (fun _=>?_) ?_
  rotate_left
  ·go_simp
   try w_num
   rfl
  ·simp [go_sem, *]
  walk_nrm
  refine QuitsD.value ?_ rfl rfl (by k_ne) (fun _=>?_) (fun _=>?_) ?_
  rotate_left
  ·go_simp
   try w_num
   rfl
  ·simp [go_sem, *]
  walk_nrm
  q_c stepG_region_end
  q_c stepG_seq
  q_c stepG_seq
  q_reg
  refine QuitsD.value ?_ rfl rfl (by k_ne) (fun _=>?_) (fun _=>?_) ?_
  rotate_left
  ·go_simp
   try w_num
   rfl
  ·simp [go_sem, *]
  walk_nrm
  refine QuitsD.value ?_ rfl rfl (by k_ne) (fun _=>?_) (fun _=>?_) ?_
  rotate_left
  ·go_simp
   try w_num
   rfl
  ·simp [go_sem, *]
  walk_nrm
  refine QuitsD.value ?_ rfl rfl (by k_ne) (fun _=>?_) (fun _=>?_) ?_
  rotate_left
  ·go_simp
   try w_num
   rfl
  ·simp [go_sem, *]
  walk_nrm
  refine QuitsD.value ?_ rfl rfl (by k_ne) (fun _=>?_) (fun _=>?_) ?_
  rotate_left
  ·go_simp
   try w_num
   rfl
  ·simp [go_sem, *]
  walk_nrm
  refine QuitsD.value ?_ rfl rfl (by k_ne) (fun _=>?_) (fun _=>?_) ?_
  rotate_left
  ·go_simp
   try w_num
   rfl
  ·simp [go_sem, *]
  walk_nrm
  q_skip
  q_skip
  q_skip
  q_skip
  refine QuitsD.value ?_ rfl rfl (by k_ne) (fun _=>?_) (fun _=>?_) ?_
  rotate_left
  ·go_simp
   try w_num
   rfl
  ·simp [go_sem, *]
  walk_nrm
  q_c stepG_region_end
  q_cond false
  q_c stepG_skip
  q_c stepG_seq
  q_c stepG_seq
  q_reg
  refine QuitsD.value ?_ rfl rfl (by k_ne) (fun _=>?_) (fun _=>?_) ?_
  rotate_left
  ·go_simp
   try w_num
   rfl
  ·simp [go_sem, *]
  walk_nrm
  refine QuitsD.value ?_ rfl rfl (by k_ne) (fun _=>?_) (fun _=>?_) ?_
  rotate_left
  ·go_simp
   try w_num
   rfl
  ·simp [go_sem, *]
  walk_nrm
  q_c stepG_region_end
  q_cond false
  q_c stepG_skip
  q_c stepG_seq
  q_c stepG_seq
  q_reg
  refine QuitsD.value ?_ rfl rfl (by k_ne) (fun _=>?_) (fun _=>?_) ?_
  rotate_left
  ·go_simp
   try w_num
   rfl
  ·simp [go_sem, *]
  walk_nrm
  refine QuitsD.value ?_ rfl rfl (by k_ne) (fun _=>?_) (fun _=>?_) ?_
  rotate_left
  ·go_simp
   try w_num
   rfl
  ·simp [go_sem, *]
  walk_nrm
  refine QuitsD.value ?_ rfl rfl (by k_ne) (fun _=>?_) (fun _=>?_) ?_
  rotate_left
  ·go_simp
   try w_num
   rfl
  ·simp [go_sem, *]
  walk_nrm
  q_skip
  q_skip
  refine QuitsD.value ?_ rfl rfl (by k_ne) (fun _=>?_) (fun _=>?_) ?_
  rotate_left
  ·go_simp
   try w_num
   rfl
  ·simp [go_sem, *]
  walk_nrm
  refine QuitsD.value ?_ rfl rfl (by k_ne) (fun _=>?_) (fun _=>?_) ?_
  rotate_left
  ·go_simp
   try w_num
   rfl
  ·simp [go_sem, *]
  walk_nrm
  q_skip
  q_skip
  q_skip
  q_skip
  refine QuitsD.value ?_ rfl rfl (by k_ne) (fun _=>?_) (fun _=>?_) ?_
  rotate_left
  ·go_simp
   try w_num
   rfl
  ·simp [go_sem, *]
  walk_nrm
  q_c stepG_region_end
  q_cond false
  q_c stepG_skip
  q_c stepG_seq
  q_c stepG_seq
  q_reg
  refine QuitsD.value ?_ rfl rfl (by k_ne) (fun _=>?_) (fun _=>?_) ?_
  rotate_left
  ·go_simp
   try w_num
   rfl
  ·simp [go_sem, *]
  walk_nrm
  refine QuitsD.value ?_ rfl rfl (by k_ne) (fun _=>?_) (fun _=>?_) ?_
  rotate_left
  ·go_simp
   try w_num
   rfl
  ·simp [go_sem, *]
  walk_nrm
  refine QuitsD.value ?_ rfl rfl (by k_ne) (fun _=>?_) (fun _=>?_) ?_
  rotate_left
  ·go_simp
   try w_num
   rfl
  ·simp [go_sem, *]
  walk_nrm
  q_skip
  q_skip
  refine QuitsD.value ?_ rfl rfl (by k_ne) (fun _=>?_) (fun _=>?_) ?_
  rotate_left
  ·go_simp
   try w_num
   rfl
  ·simp [go_sem, *]
  walk_nrm
  q_c stepG_region_end
  q_cond true
  q_c stepG_ret'
  q_enable
  q_leave0 H.f_add
  exact Qhg 856 hT
 ·skip
  have k0:∀ {W:World},WgAt L.tWg Wg W (((v+1:Nat):Int) * KK+((1:Nat):Int)) 0->WgAt L.tWg Wg W (((v:Nat)+1) * KK+1) 0:=fun hw=>by simpa using hw
  obtain ⟨V,hV⟩:∃ V:Int,V=(v:Int):=⟨_,rfl⟩;obtain ⟨S,hS⟩:∃ S:Int,S=V * KK+1:=⟨_,rfl⟩;have z:(v:Int) * KK+((1:Nat):Int)=S:=by rw [hS,hV];simp
  have e0:IntKind.u64.wrap (((v:Nat)+1) * KK+1+18446744069414584320)=S:=by rw [IntKind.wrap_u64,hS,hV];simp only [KK];omega
  rw [z];clear z;have a1:S / 4294967296=V:=by rw [hS];simp only [KK];omega
  have b1:bits .and .u64 S 2147483648=0:=by rw [hS,hV];have:=st_flag v 1 (by omega) (by omega);simpa [KK] using this
  have b2:bits .and .u64 S 2147483647=1:=by rw [hS,hV];have:=st_waiters v 1 (by omega) (by omega);simpa [KK] using this
  have a2:0<=S/\S < 9223372036854775808:=by rw [hS];simp only [KK];omega
  clear hS;have c1:IntKind.i32.wrap V=V:=by rw [IntKind.wrap_i32];omega
  have q3:decide (V < 0)=false:=decide_eq_false (by omega);have q4:decide (0 < V)=true:=decide_eq_true (by omega);have q5:(V == 0)=false:=by simp;omega
  have q6:decide (V=0)=false:=decide_eq_false (by omega);have q7:(V == -1)=false:=by simp;omega
  have q8:decide (V=-1)=false:=decide_eq_false (by omega);refine ⟨_,fun W hw=>(stepG_add_atomic (v:=((v:Nat)+1) * KK+1) rfl rfl (by k_ne) rfl H.f_addU64 (x_addU64_n L) (x_addU64_b L) (x_addU64_x L) .u64 (x_addU64_f L) rfl rfl (WgAt.cellSt (k0 hw)) (WgAt.thaw (k0 hw) 0)).trans (by rw [e0];rfl),fun h=>absurd h.1 (by omega),fun _=>?_⟩;clear hV e0 k0
  walk_nrm
  refine QuitsD.value ?_ rfl rfl (by k_ne) (fun _=>?_) (fun _=>?_) ?_
  rotate_left
  ·go_simp
   try w_num
   rfl
  ·simp [go_sem, *]
  walk_nrm
  q_c stepG_region_end
  q_c stepG_ret'
  q_leave1 H.f_uAdd
  refine QuitsD.value ?_ rfl rfl (by k_ne) (fun _=>?_) (fun _=>?_) ?_
  rotate_left
  ·go_simp
   try w_num
   rfl
  ·simp [go_sem, *]
  walk_nrm
  q_c stepG_region_end
  q_c stepG_seq
  q_c stepG_seq
  q_reg
  refine QuitsD.value ?_ rfl rfl (by k_ne) (fun _=>?_) (fun _=>?_) ?_
  rotate_left
  ·go_simp
   try w_num
   rfl
  ·simp [go_sem, *]
  walk_nrm
  refine QuitsD.value ?_ rfl rfl (by k_ne) (fun _=>?_) (fun _=>?_) ?_
  rotate_left
  ·go_simp
   try w_num
   rfl
  ·simp [go_sem, *]
  walk_nrm
  refine QuitsD.value ?_ rfl rfl (by k_ne) (fun _=>?_) (fun _=>?_) ?_
  rotate_left
  ·go_simp
   try w_num
   rfl
  ·simp [go_sem, *]
  walk_nrm
  refine QuitsD.value ?_ rfl rfl (by k_ne) (fun _=>?_) (fun _=>?_) ?_
  rotate_left
  ·go_simp
   try w_num
   rfl
  ·simp [go_sem, *]
  walk_nrm
  q_skip
  q_skip
  refine QuitsD.value ?_ rfl rfl (by k_ne) (fun _=>?_) (fun _=>?_) ?_
  rotate_left
  ·go_simp
   try w_num
   rfl
  ·simp [go_sem, *]
  walk_nrm
  q_c stepG_region_end
  q_cond false
  q_c stepG_skip
  q_c stepG_seq
  q_reg
  refine QuitsD.value ?_ rfl rfl (by k_ne) (fun _=>?_) (fun _=>?_) ?_
  rotate_left
  ·go_simp
   try w_num
   rfl
  ·simp [go_sem, *]
  walk_nrm
  refine QuitsD.value ?_ rfl rfl (by k_ne) (fun _=>?_) (fun _=>?_) ?_
  rotate_left
  ·go_simp
   try w_num
   rfl
  ·simp [go_sem, *]
  walk_nrm
  refine QuitsD.value ?_ rfl rfl (by k_ne) (fun _=>?_) (fun _=>?_) ?_
  rotate_left
  ·go_simp
   try w_num
   rfl
  ·simp [go_sem, *]
  walk_nrm
  refine QuitsD.value ?_ rfl rfl (by k_ne) (fun _=>?_) (fun _=>?_) ?_
  rotate_left
  ·go_simp
   try w_num
   rfl
  ·simp [go_sem, *]
  walk_nrm
  q_c stepG_region_end
  q_c stepG_seq
  q_reg
  refine QuitsD.value ?_ rfl rfl (by k_ne) (fun _=>?_) (fun _=>?_) ?_
  rotate_left
  ·go_simp
   try w_num
   rfl
  ·simp [go_sem, *]
  walk_nrm
  refine QuitsD.value ?_ rfl rfl (by k_ne) (fun _=>?_) (fun _=>?_) ?_
  rotate_left
  ·go_simp
   try w_num
   rfl
  ·simp [go_sem, *]
  walk_nrm
  refine QuitsD.value ?_ rfl rfl (by k_ne) (fun _=>?_) (fun _=>?_) ?_
  rotate_left
  ·go_simp
   try w_num
   rfl
  ·simp [go_sem, *]
  walk_nrm
  refine QuitsD.value ?_ rfl rfl (by k_ne) (fun _=>?_) (fun _=>?_) ?_
  rotate_left
  ·go_simp
   try w_num
   rfl
  ·simp [go_sem, *]
  walk_nrm
  q_c stepG_region_end
  q_c stepG_seq
  q_c stepG_seq
  q_reg
  refine QuitsD.value ?_ rfl rfl (by k_ne) (fun _=>?_) (fun _=>?_) ?_
  rotate_left
  ·go_simp
   try w_num
   rfl
  ·simp [go_sem, *]
  walk_nrm
  refine QuitsD.value ?_ rfl rfl (by k_ne) (fun _=>?_) (fun _=>?_) ?_
  rotate_left
  ·go_simp
   try w_num
   rfl
  ·simp [go_sem, *]
  walk_nrm
  refine QuitsD.value ?_ rfl rfl (by k_ne) (fun _=>?_) (fun _=>?_) ?_
  rotate_left
  ·go_simp
   try w_num
   rfl
  ·simp [go_sem, *]
  walk_nrm
  refine QuitsD.value ?_ rfl rfl (by k_ne) (fun _=>?_) (fun _=>?_) ?_
  rotate_left
  ·go_simp
   try w_num
   rfl
  ·simp [go_sem, *]
  walk_nrm
  refine QuitsD.value ?_ rfl rfl (by k_ne) (fun _=>?_) (fun _=>?_) ?_
  rotate_left
  ·go_simp
   try w_num
   rfl
  ·simp [go_sem, *]
  walk_nrm
  q_skip
  q_skip
  q_skip
  q_skip
  refine QuitsD.value ?_ rfl rfl (by k_ne) (fun _=>?_) (fun _=>?_) ?_
  rotate_left
  ·go_simp
   try w_num
   rfl
  ·simp [go_sem, *]
  walk_nrm
  q_c stepG_region_end
  q_cond false
  q_c stepG_skip
  q_c stepG_seq
  q_c stepG_seq
  q_reg
  refine QuitsD.value ?_ rfl rfl (by k_ne) (fun _=>?_) (fun _=>?_) ?_
  rotate_left
  ·go_simp
   try w_num
   rfl
  ·simp [go_sem, *]
  walk_nrm
  refine QuitsD.value ?_ rfl rfl (by k_ne) (fun _=>?_) (fun _=>?_) ?_
  rotate_left
  ·go_simp
   try w_num
   rfl
  ·simp [go_sem, *]
  walk_nrm
  q_c stepG_region_end
  q_cond false
  q_c stepG_skip
  q_c stepG_seq
  q_c stepG_seq
  q_reg
  refine QuitsD.value ?_ rfl rfl (by k_ne) (fun _=>?_) (fun _=>?_) ?_
  rotate_left
  ·go_simp
   try w_num
   rfl
  ·simp [go_sem, *]
  walk_nrm
  refine QuitsD.value ?_ rfl rfl (by k_ne) (fun _=>?_) (fun _=>?_) ?_
  rotate_left
  ·go_simp
   try w_num
   rfl
  ·simp [go_sem, *]
  walk_nrm
  refine QuitsD.value ?_ rfl rfl (by k_ne) (fun _=>?_) (fun _=>?_) ?_
  rotate_left
  ·go_simp
   try w_num
   rfl
  ·simp [go_sem, *]
  walk_nrm
  refine QuitsD.value ?_ rfl rfl (by k_ne) (fun _=>?_) (fun _=>?_) ?_
  rotate_left
  ·go_simp
   try w_num
   rfl
  ·simp [go_sem, *]
  walk_nrm
  refine QuitsD.value ?_ rfl rfl (by k_ne) (fun _=>?_) (fun _=>?_) ?_
  rotate_left
  ·go_simp
   try w_num
   rfl
  ·simp [go_sem, *]
  walk_nrm
  refine QuitsD.value ?_ rfl rfl (by k_ne) (fun _=>?_) (fun _=>?_) ?_
  rotate_left
  ·go_simp
   try w_num
   rfl
  ·simp [go_sem, *]
  walk_nrm
  refine QuitsD.value ?_ rfl rfl (by k_ne) (fun _=>?_) (fun _=>?_) ?_
  rotate_left
  ·go_simp
   try w_num
   rfl
  ·simp [go_sem, *]
  walk_nrm
  q_skip
  q_skip
  q_skip
  q_skip
  refine QuitsD.value ?_ rfl rfl (by k_ne) (fun _=>?_) (fun _=>?_) ?_
  rotate_left
  ·go_simp
   try w_num
   rfl
  ·simp [go_sem, *]
  walk_nrm
  q_c stepG_region_end
  q_cond false
  q_c stepG_skip
  q_c stepG_seq
  q_c stepG_seq
  q_reg
  refine QuitsD.value ?_ rfl rfl (by k_ne) (fun _=>?_) (fun _=>?_) ?_
  rotate_left
  ·go_simp
   try w_num
   rfl
  ·simp [go_sem, *]
  walk_nrm
  refine QuitsD.value ?_ rfl rfl (by k_ne) (fun _=>?_) (fun _=>?_) ?_
  rotate_left
  ·go_simp
   try w_num
   rfl
  ·simp [go_sem, *]
  walk_nrm
  refine QuitsD.value ?_ rfl rfl (by k_ne) (fun _=>?_) (fun _=>?_) ?_
  rotate_left
  ·go_simp
   try w_num
   rfl
  ·simp [go_sem, *]
  walk_nrm
  q_skip
  q_skip
  refine QuitsD.value ?_ rfl rfl (by k_ne) (fun _=>?_) (fun _=>?_) ?_
  rotate_left
  ·go_simp
   try w_num
   rfl
  ·simp [go_sem, *]
  walk_nrm
  q_c stepG_region_end
  q_cond true
  q_c stepG_ret'
  q_enable
  q_leave0 H.f_add
  exact Qhg 856 hT
set_option maxRecDepth 100000 in
set_option maxHeartbeats 8000000 in
theorem QIw {P:Program} {L:WgLink} (H:WgLib P L) {Wg:Nat} {c:Frame} {cs:List Frame} {qt:Nat} (hcm:c.mode=.returning) (hT:QuitsD P qt 0 (G c cs)) :
  LW P L.tWg Wg (qt+1013) .A (G ((baseD L.done).at ⟨#[.pointer (some ⟨Wg,0,none⟩),undef,undef,undef],[]⟩ [.code (ConcR.Gen.body_done L)]) (c::cs)):=by
 lib_facts
 obtain ⟨w,hK⟩:=YV L.tWg Wg;have hA:=@QIv P L H Wg;simp only [ConcR.Gen.body_done,ConcR.Gen.body_add,doneFn,addFn,Option.getD_some] at hA ⊢;refine LW.goes (m:=qt+1003) (n:=10) hK ?_
 u_reg rl hK
 u_op rl hK
 u_in rl hK
 refine goes_call rfl rfl (by k_ne) rfl H.f_add (nm_add L) rfl ⟨by u_nil,?_⟩
 walk_nrmf addFn
 refine Goes.stop (fun w₁ h₁=>?_);refine hA (qt:=qt+3) ?_
 q_c stepG_region_end
 q_c stepG_end
 exact QuitsD.leaveD rfl rfl H.f_done rfl hcm hT
end Go.Gw

end
