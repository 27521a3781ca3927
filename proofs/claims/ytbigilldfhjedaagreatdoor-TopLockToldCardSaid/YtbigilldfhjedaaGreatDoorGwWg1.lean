/- Laws of the walk. Condition: each theorem says its own. -/
import Derived.Test.YtbigilldfhjedaaGreatDoorGwCj7
import Derived.Conc.WrWorld
set_option linter.unusedVariables false
set_option linter.unusedSimpArgs false
set_option linter.unusedSectionVars false
open Option renaming map_eq_some_iff→Ea,isSome_iff_exists→Eg,map_some→Ek,some→Eo
open Array renaming getElem?_eq_some_iff→Eb,getElem?_setIfInBounds_ne→Ed,getElem?_eq_getElem→Ee,append_assoc→Ef,mem_append→Ej,append_empty→Es
open Nat renaming lt_of_lt_of_le→Ec,le_trans→Eh,le_refl→En
open List renaming countP_congr→Ei,mem_cons→El,nodup_cons→Em,countP_le_length→Ep,getElem?_set_ne→Eq_,mem_map_of_mem→Er,mem_map→Et
section
set_option linter.unusedVariables false
namespace Go.Gw
open Go Go.Conc
theorem AtL.of {l:Loc} {a:Addr} (h:l=.cell a):AtL l a:=h▸.cell a

inductive Lv where
 | no | rel | zero
section
variable {ga:Addr} {t u:Trace} {i e:Nat} {l:Lv}
def RelK (ga:Addr) (t:Trace) (i e:Nat):Prop:=∃ r z,t[r]?=some z/\z.g=i/\z.act=.mark (.releaseMerge ga)/\t.heard r/\HappensBefore t e r
theorem RelK.app (u:Trace) (h:RelK ga t i e):RelK ga (t++u) i e:=by
 obtain ⟨r,z,h1,h2,h3,h4,h5⟩:=h;have hr:=lt_size_of_getElem? h1;exact ⟨r,z,by grind,h2,h3,(heard_old hr).2 h4,hb_app u h5⟩
def Kn (ga:Addr) (t:Trace) (l:Lv) (i e:Nat):Prop:=match l with | .no=>Knows t i e | .rel=>RelK ga t i e | .zero=>Knows t 0 e
theorem Kn.app (u:Trace) (h:Kn ga t l i e):Kn ga (t++u) l i e:=by
 cases l
 ·exact Knows.app u h
 ·exact RelK.app u h
 ·exact Knows.app u h
theorem Kn.no (h:Kn ga t l i e) (hl:l=.no):Knows t i e:=by subst hl;exact h
end

structure SeenG (ga:Addr) (B:Nat->Prop) (l:Lv) (x:View) (W:World) (t:Trace) (i:Nat):Prop where
 agr:Agr x.F x.Z x.w W
 nov:NoView x.w
 bnd:∀ b,x.F b->b < W.heap.size
 out:∀ b,B b->¬ x.F b
 own:∀ e a ad,touchAt t e=some a->AtL a.loc ad->x.F ad.block->¬ x.Z ad.block->Kn ga t l i e
 shr:∀ e a ad,touchAt t e=some a->AtL a.loc ad->x.Z ad.block->a.write=true->Kn ga t l i e
structure PG (Sh:Loc->Prop) (ga:Addr) (C:Nat) (Q:Nat->Addr->Prop) (lim:Nat->Lv) (vs:Nat->Option View) (n:Nat) (W:World) (t:Trace):Prop where
 seen:∀ i x,vs i=some x->i < n/\SeenG ga (fun b=>b=ga.block\/b=C) (lim i) x W t i
 apart:∀ i j x y,i≠j->vs i=some x->vs j=some y->Apart x y
 clean:∀ said,¬ Race said t
 known:∀ e a,touchAt t e=some a->a.loc.isMemory=true->Knows t 0 e\/(Sh a.loc/\a.kind=.atomic)\/(∃ ad,a.loc=.cell ad/\ad.block=ga.block/\a.kind=.atomic)\/∃ j,(vs j).isSome=true/\Kn ga t (lim j) j e
 grp:∀ e a ad,touchAt t e=some a->AtL a.loc ad->ad.block=ga.block->a.kind=.atomic\/(a.kind=.said/\t.g? e=some 0)
 pay:∀ e a ad,touchAt t e=some a->AtL a.loc ad->ad.block=C->∀ i,Q i ad->Kn ga t (lim i) i e
 qd:∀ i j ad,i≠j->Q i ad->¬ Q j ad
 qs:∀ i ad,Q i ad->(vs i).isSome=true
 over:∀ e g,t.g? e=some g->g≠0->t.counts e->(∃ j,t.g? j=some 0/\HappensBefore t e j)\/∃ j,(vs j).isSome=true/\Kn ga t (lim j) j e
 above:∀ j,n<=j->Deaf t j=0
 low:∀ op∈t,op.act.low W.heap.size
 norel:∀ op∈t,op.act≠.mark (.release ga)
 mono:∀ i x x0,vs i=some x->vs 0=some x0->∀ b,x.Z b->x0.F b
 gl:ga.block < W.heap.size
 cl:C < W.heap.size
 gc:ga.block≠C

inductive PushOk (ga:Addr) (C:Nat) (Q:Nat->Addr->Prop) (lim:Nat->Lv) (t:Trace) (y:MemOp):Prop
 | calm:y.act.touch?=none->PushOk ga C Q lim t y
 | atom (ad:Addr) (w:Bool):y.act=.access ⟨.cell ad,w,true⟩->ad.block=ga.block->0 < Deaf t y.g->PushOk ga C Q lim t y
 | said (ad:Addr):y.g=0->ad.block=ga.block->(y.act=.mark (.read ad)\/y.act=.mark (.write ad))->PushOk ga C Q lim t y
 | pay (ad:Addr) (w:Bool):y.act=.access ⟨.cell ad,w,false⟩->ad.block=C->Q y.g ad->lim y.g=.no->PushOk ga C Q lim t y

section
variable {Sh:Loc->Prop} {ga:Addr} {C n:Nat} {Q:Nat->Addr->Prop} {lim:Nat->Lv} {vs:Nat->Option View} {W W':World} {t:Trace} {i:Nat} {x:View}

theorem Qeq {y:MemOp} {e:Nat} {a:Touch} (h:touchAt (t++#[y]) e=some a):(e < t.size/\touchAt t e=some a)\/(e=t.size/\y.act.touch?=some a):=by
 rcases Qcq h with ⟨h1,h2⟩ | ⟨h1,op,h2,h3,h4⟩
 ·simp_all
 grind
theorem Qll {y:MemOp}:Knows (t++#[y]) y.g t.size:=knows_own (z:=y) Qdt
theorem PG.push (h:PG Sh ga C Q lim vs n W t) {y:MemOp} (hy:PushOk ga C Q lim t y) (hn:y.g < n) (hl:y.act.low W.heap.size) (hr:y.act≠.mark (.release ga)):PG Sh ga C Q lim vs n W (t++#[y]):=by
 -- where a new touch lies
 have hnew:∀ b,y.act.touch?=some b->∃ ad,b.loc=.cell ad/\(ad.block=ga.block\/ad.block=C):=fun b hb=>by
  cases hy with
  | calm h1=>simp_all
  | atom ad w h1 h2 h3=>grind [MemAct.touch?]
  | said ad h1 h2 h3=>grind [MemAct.touch?]
  | pay ad w h1 h2 h3 h4=>grind [MemAct.touch?]
 refine ⟨fun j x hx=>?_,h.apart,fun said=>?_,fun e a ha hm=>?_,fun e a ad ha hl' hb=>?_,fun e a ad ha hl' hb j hq=>?_,h.qd,h.qs,fun e g hge hne hc=>?_,fun j hj=>?_,fun op hop=>?_,fun op hop=>?_,h.mono,h.gl,h.cl,h.gc⟩
 ·obtain ⟨hjn,sx⟩:=h.seen j x hx;refine ⟨hjn,sx.agr,sx.nov,sx.bnd,sx.out,fun e a ad ha hl' hF hz=>?_,fun e a ad ha hl' hz hw=>?_⟩
  ·rcases Qeq ha with ⟨_,h1⟩ | ⟨_,h1⟩
   ·exact (sx.own e a ad h1 hl' hF hz).app _
   ·obtain ⟨ad',h2,h3⟩:=hnew a h1;cases hl'.inj (AtL.of h2);exact absurd hF (sx.out _ h3)
  ·rcases Qeq ha with ⟨_,h1⟩ | ⟨_,h1⟩
   ·exact (sx.shr e a ad h1 hl' hz hw).app _
   ·obtain ⟨ad',h2,h3⟩:=hnew a h1;cases hl'.inj (AtL.of h2);exact absurd (sx.agr.zf _ hz) (sx.out _ h3)
 ·refine noRace_append (g:=y.g) (h.clean said) (fun op hop=>by simp_all) fun e a hta op hop b hb hcf=>?_;have:op=y:=by grind
  subst this;obtain ⟨c1,c2,c3,c4⟩:=hcf;cases hy with
  | calm h1=>simp_all
  | atom ad w h1 h2 h3 =>
   exfalso;rw [h1] at hb;simp only [MemAct.touch?] at hb;cases hb;rcases h.grp e a ad hta (AtL.of c1) h2 with h4 | ⟨h4,_⟩<;>(simp_all)
  | said ad h1 h2 h3 =>
   have hb':b.loc=.cell ad/\b.kind=.said:=by grind [MemAct.touch?]
   rcases h.grp e a ad hta (AtL.of (c1.trans hb'.1)) h2 with h4 | ⟨h4,h5⟩
   ·simp_all
   ·obtain ⟨z,hz,hz2⟩:=Ea.1 h5
    grind [knows_own]
  | pay ad w h1 h2 h3 h4 =>
   rw [h1] at hb;simp only [MemAct.touch?] at hb;cases hb;exact (h.pay e a ad hta (AtL.of c1) h2 _ h3).no h4
 ·rcases Qeq ha with ⟨_,h1⟩ | ⟨rfl,h1⟩
  ·rcases h.known e a h1 hm with h2 | h2 | h2 | ⟨j,h2,h3⟩
   ·exact .inl (h2.app _)
   ·simp_all
   ·simp_all
   ·exact .inr (.inr (.inr ⟨j,h2,h3.app _⟩))
  ·cases hy with
   | calm h2=>simp_all
   | atom ad w h2 h3 h4=>grind [MemAct.touch?]
   | said ad h2 h3 h4=>grind [Qll]
   | pay ad w h2 h3 h4 h5=>exact .inr (.inr (.inr ⟨y.g,h.qs _ _ h4,by rw [h5];exact Qll⟩))
 ·rcases Qeq ha with ⟨h0,h1⟩ | ⟨rfl,h1⟩
  ·exact (h.grp e a ad h1 hl' hb).imp id fun h2=>⟨h2.1,by grind [g?_old]⟩
  ·cases hy with
   | calm h2=>simp_all
   | atom ad w h2 h3 h4=>grind [MemAct.touch?]
   | said ad h2 h3 h4=>grind [MemAct.touch?,Trace.g?,Qdt]
   | pay ad w h2 h3 h4 h5=>rw [h2] at h1;simp only [MemAct.touch?] at h1;cases h1;cases hl';exact absurd (hb.symm.trans h3) h.gc
 ·rcases Qeq ha with ⟨h0,h1⟩ | ⟨rfl,h1⟩
  ·exact (h.pay e a ad h1 hl' hb j hq).app _
  ·cases hy with
   | calm h2=>simp_all
   | atom ad w h2 h3 h4=>rw [h2] at h1;simp only [MemAct.touch?] at h1;cases h1;cases hl';exact absurd (h3.symm.trans hb) h.gc
   | said ad h2 h3 h4=>rcases h4 with h4 | h4<;>(rw [h4] at h1;simp only [MemAct.touch?] at h1;cases h1;cases hl';exact absurd (h3.symm.trans hb) h.gc)
   | pay ad w h2 h3 h4 h5 =>
    rw [h2] at h1;simp only [MemAct.touch?] at h1;cases h1;cases hl';have:j=y.g:=Classical.byContradiction fun hne=>h.qd j y.g ad hne hq h4
    subst this;rw [h5];exact Qll
 ·rcases g?_cases hge with ⟨h0,h1⟩ | ⟨h0,op,h1,h2,h3⟩
  ·rcases h.over e g h1 hne ((counts_old h0).1 hc) with ⟨j,h4,h5⟩ | ⟨j,h4,h5⟩
   ·exact .inl ⟨j,by grind [g?_old,lt_of_g?],hb_app _ h5⟩
   ·exact .inr ⟨j,h4,h5.app _⟩
  ·have:op=y:=by grind
   subst this;have he:e=t.size:=by
    grind
   subst he;obtain ⟨a,ha,_,hk⟩:=hc;rw [show ((t++#[op]).act? t.size).bind (·.touch?)=touchAt (t++#[op]) t.size from rfl,touchAt_of h3] at ha;cases hy with
   | calm h4=>simp_all
   | atom ad w h4 h5 h6 =>
    exfalso;rw [h4] at ha;simp only [MemAct.touch?] at ha;cases ha;rcases hk with hk | ⟨g',hk1,hk2⟩
    ·simp at hk
    ·rw [hge] at hk1;cases hk1;rw [deaf_old (En _)] at hk2
     grind [Deaf]
   | said ad h4 h5 h6=>omega
   | pay ad w h4 h5 h6 h7=>exact .inr ⟨op.g,h.qs _ _ h6,by rw [h7];exact Qll⟩
 ·rw [Deaf_other t (g':=y.g) (by omega) _ (fun op hop=>by simp_all)];exact h.above j hj
 ·rcases Ej.1 hop with h1 | h1
  ·exact h.low op h1
  simp_all
 ·rcases Ej.1 hop with h1 | h1
  ·exact h.norel op h1
  simp_all

theorem Agr.off {F Z:Nat->Prop} {w:World} (h:Agr F Z w W) (ht:W'.tape=W.tape) (hd:W'.drawn=W.drawn) (ho:W'.os=W.os) (hu:W'.output=W.output) (hs:W'.heap.size=W.heap.size) (hb:∀ b,F b->W'.heap[b]?=W.heap[b]?):Agr F Z w W' :=
 ⟨ht.trans h.tape,hd.trans h.drawn,ho.trans h.os,hu.trans h.output,hs.trans h.size,fun b hF hz=>by rw [hb b hF];exact h.own b hF hz,fun b hF hz=>by rw [hb b hF];exact h.shr b hF hz,h.hid,h.zf⟩
theorem PG.turn (h:PG Sh ga C Q lim vs n W t) (ht:W'.tape=W.tape) (hd:W'.drawn=W.drawn) (ho:W'.os=W.os) (hu:W'.output=W.output) (hs:W'.heap.size=W.heap.size) (hb:∀ b,b≠ga.block->b≠C->W'.heap[b]?=W.heap[b]?):PG Sh ga C Q lim vs n W' t :=
  ⟨fun i x hx=>by
    obtain ⟨h1,sx⟩:=h.seen i x hx;exact ⟨h1,sx.agr.off ht hd ho hu hs (fun b hF=>hb b (fun e=>sx.out b (.inl e) hF) (fun e=>sx.out b (.inr e) hF)),sx.nov,fun b hF=>by rw [hs];exact sx.bnd b hF,sx.out,sx.own,sx.shr⟩,
   h.apart,h.clean,h.known,h.grp,h.pay,h.qd,h.qs,h.over,h.above,fun op hop=>by rw [hs];exact h.low op hop,h.norel,h.mono,by rw [hs];exact h.gl,by rw [hs];exact h.cl,h.gc⟩

theorem PG.at (h:PG Sh ga C Q lim vs n W t) (d:Nat):PG Sh ga C Q lim (Qcz vs d) n (W.at d) t:=by
 refine ⟨fun j y hy=>?_,fun j k y z hjk hy hz=>?_,h.clean,fun e a ha hm=>?_,h.grp,h.pay,h.qd,fun j ad hq=>by rw [Qkx];exact h.qs j ad hq,fun e g hge hne hc=>?_,h.above,h.low,h.norel,fun j y y0 hy hy0 b hb=>?_,h.gl,h.cl,h.gc⟩
 ·obtain ⟨y0,hy0,rfl⟩:=Ea.1 hy;obtain ⟨h1,sx⟩:=h.seen j y0 hy0;exact ⟨h1,sx.agr.at d,sx.nov.rel (J0 _ d),sx.bnd,sx.out,sx.own,sx.shr⟩
 ·obtain ⟨y0,hy0,rfl⟩:=Ea.1 hy;obtain ⟨z0,hz0,rfl⟩:=Ea.1 hz;exact h.apart j k y0 z0 hjk hy0 hz0
 ·rcases h.known e a ha hm with h4 | h4 | h4 | ⟨j,h4,h5⟩
  ·grind
  ·simp_all
  ·simp_all
  grind [Qkx]
 ·rcases h.over e g hge hne hc with h4 | ⟨j,h4,h5⟩
  ·grind
  grind [Qkx]
 ·obtain ⟨y',h1,rfl⟩:=Ea.1 hy;obtain ⟨y00,h2,rfl⟩:=Ea.1 hy0;exact h.mono j y' y00 h1 h2 b hb
end
end Go.Gw

end
section
set_option linter.unusedVariables false
namespace Go.Gw
open Go Go.Conc
section
variable {Sh:Loc->Prop} {ga:Addr} {C n:Nat} {Q:Nat->Addr->Prop} {lim:Nat->Lv} {vs:Nat->Option View} {W W':World} {t:Trace} {i:Nat} {x:View}

theorem PG.old_low (h:PG Sh ga C Q lim vs n W t) {e:Nat} {a:Touch} {ad:Addr} (ha:touchAt t e=some a) (hl:AtL a.loc ad):ad.block < W.heap.size:=by
 obtain ⟨op,ho,hop⟩:=touch_of ha;have:=h.low op (mem_of_getElem? ho);obtain ⟨g,fn,pos,act⟩:=op;cases act with
 | access ev =>
  simp only [MemAct.touch?] at hop;cases hop;simp only [MemAct.low] at this;simp only at hl;generalize ev.loc=l at this hl;cases hl<;>exact this
 | mark m =>
  cases m<;>simp only [MemAct.touch?] at hop<;>first | (cases hop;done) | (cases hop;simp only at hl;cases hl;exact this)
 | _=>trivial

theorem QJf {F Z:Nat->Prop} {e:Event} (h:EvOk F Z e):MemAct.ofEvent e≠.mark (.release ga):=by
 obtain ⟨loc,wr,sy⟩:=e;rcases h with ⟨a,h1,h2,h3,h4⟩ | h1
 ·simp only at h1 h2;subst h2;cases h1<;>cases wr<;>simp [MemAct.ofEvent]
 grind [MemAct.ofEvent]

theorem PG.step (h:PG Sh ga C Q lim vs n W t) (hi:vs i=some x) (hli:lim i=.no) {F':Nat->Prop} {w':World} (ha:AgrTo x.F x.Z W F' w' W') (hn:NoView w') {es:Array Event} (he:∀ e∈es,EvOk F' x.Z e) (fn:FuncId) (pos:String) :
    PG Sh ga C Q lim (Qbm vs i (some ⟨fun b=>F' b/\b < W'.heap.size,x.Z,w'⟩) W') n W' (t++MemOp.ofEvents i fn pos es):=by
  obtain ⟨hin,hx⟩:=h.seen i x hi;have hg:∀ op∈MemOp.ofEvents i fn pos es,op.g=i:=fun op hop=>by grind [Conc.mem_ofEvents]
  have hF:∀ b,F' b->b < W.heap.size->x.F b:=fun b hb hlt=>by
    rcases ha.new b hb with h1 | h1
    · exact h1
    · omega
  have hown:∀ {e z},(t++MemOp.ofEvents i fn pos es)[e]?=some z->z.g=i->Kn ga (t++MemOp.ofEvents i fn pos es) (lim i) i e:=fun hz hzg=>by
    rw [hli];have:=knows_own hz;rwa [hzg] at this
  have hki:∀ {e},Kn ga t (lim i) i e->Knows t i e:=fun hk=>hk.no hli
  have hout:∀ b,(b=ga.block\/b=C)->¬ F' b:=fun b hb hF'=>by
    have hlt:b < W.heap.size:=by rcases hb with rfl | rfl;exact h.gl;exact h.cl
    exact hx.out b hb (hF b hF' hlt)
  have hop:∀ op∈MemOp.ofEvents i fn pos es,∀ b,op.act.touch?=some b->∃ ad,AtL b.loc ad/\F' ad.block/\(b.write=true->¬ x.Z ad.block)/\b.kind=.plain:=fun op hop b hb=>by
    grind [Qrd,Conc.mem_ofEvents]
  have hgrow:∀ j y,j≠i->vs j=some y->Agr y.F y.Z (Qaa W' y).w W'/\∀ b,y.F b->W'.heap[b]?=W.heap[b]?:=fun j y hj hy=>by
    obtain ⟨_,sy⟩:=h.seen j y hy;have hk:∀ b,y.F b->W'.heap[b]?=W.heap[b]?:=fun b hb=>ha.keep b (sy.bnd b hb) (by
      rcases Classical.em (x.F b) with hxb | hxb
      · exact .inr ((h.apart i j x y (Ne.symm hj) hi hy) b hxb hb).1
      simp_all)
    exact ⟨sy.agr.grown y rfl sy.bnd ha.size ha.same.1 ha.same.2.1 ha.same.2.2 hk,hk⟩
  refine ⟨fun j y hy=>?_,fun j k y z hjk hy hz=>?_,fun said=>?_,fun e a hta hm=>?_,fun e a ad hta hl hb=>?_,fun e a ad hta hl hb j hq=>?_,h.qd,fun j ad hq=>Qtt (h.qs j ad hq),fun e g hge hne hc=>?_,fun j hj=>?_,fun op hop'=>?_,fun op hop'=>?_,fun j y y0 hy hy0 b hb=>?_,Ec h.gl ha.size,Ec h.cl ha.size,h.gc⟩
  · by_cases hj:j=i
    · subst hj;rw [Qac] at hy;cases hy;refine ⟨hin,ha.agr.cut,hn,fun b hb=>hb.2,fun b hb hF'=>hout b hb hF'.1,fun e a ad hta hl hFb hz=>?_,fun e a ad hta hl hz hw=>?_⟩
      · rcases Qcq hta with ⟨_,h1⟩ | ⟨_,op,h1,h2,h3⟩
        · exact (hx.own e a ad h1 hl (hF _ hFb.1 (h.old_low h1 hl)) hz).app _
        simp_all
      · rcases Qcq hta with ⟨_,h1⟩ | ⟨_,op,h1,h2,h3⟩
        · exact (hx.shr e a ad h1 hl hz hw).app _
        simp_all
    · rw [JK hj] at hy;obtain ⟨y0,hy0,rfl⟩:=Ea.1 hy;obtain ⟨hjn,sy⟩:=h.seen j y0 hy0;obtain ⟨hag,hk⟩:=hgrow j y0 hj hy0;have hap:=h.apart i j x y0 (Ne.symm hj) hi hy0;refine ⟨hjn,hag,sy.nov.rel Qfm,fun b hb=>Ec (sy.bnd b hb) ha.size,sy.out,fun e a ad hta hl hFb hz=>?_,fun e a ad hta hl hz hw=>?_⟩
      · rcases Qcq hta with ⟨_,h1⟩ | ⟨_,op,h1,h2,h3⟩
        · exact (sy.own e a ad h1 hl hFb hz).app _
        · obtain ⟨ad',h4,h5,h6,_⟩:=hop op h1 a h2;cases hl.inj h4;exact absurd (hap _ (hF _ h5 (sy.bnd _ hFb)) hFb).2 hz
      · rcases Qcq hta with ⟨_,h1⟩ | ⟨_,op,h1,h2,h3⟩
        · exact (sy.shr e a ad h1 hl hz hw).app _
        · obtain ⟨ad',h4,h5,h6,_⟩:=hop op h1 a h2;cases hl.inj h4;have hFb:y0.F ad.block:=sy.agr.zf _ hz;exact absurd (hap _ (hF _ h5 (sy.bnd _ hFb)) hFb).1 (h6 hw)
  · have key : ∀ j y, j ≠ i -> Qbm vs i (some ⟨fun b => F' b /\ b < W'.heap.size, x.Z, w'⟩) W' j = some y -> Apart ⟨fun b => F' b /\ b < W'.heap.size, x.Z, w'⟩ y := fun j y hj hy => by
      rw [JK hj] at hy;obtain ⟨y0,hy0,rfl⟩:=Ea.1 hy;intro b hb hyb;exact h.apart i j x y0 (Ne.symm hj) hi hy0 b (hF b hb.1 ((h.seen j y0 hy0).2.bnd b hyb)) hyb
    by_cases hj:j=i
    · subst hj;rw [Qac] at hy;grind
    · by_cases hk:k=i
      · subst hk;rw [Qac] at hz;cases hz;exact (key j y hjk hy).symm
      · rw [JK hj] at hy;rw [JK hk] at hz;obtain ⟨y0,hy0,rfl⟩:=Ea.1 hy;obtain ⟨z0,hz0,rfl⟩:=Ea.1 hz;exact h.apart j k y0 z0 hjk hy0 hz0
  · refine noRace_append (h.clean said) hg fun e a hta op hop' b hb hcf=>?_;obtain ⟨ad,h4,h5,h6,_⟩:=hop op hop' b hb;have hl:AtL a.loc ad:=hcf.1▸h4;have hFb:=hF _ h5 (h.old_low hta hl);rcases Classical.em (x.Z ad.block) with hz | hz
    · refine hki (hx.shr e a ad hta hl hz ?_);rcases hcf.2.2.1 with h7 | h7
      · exact h7
      simp_all
    · exact hki (hx.own e a ad hta hl hFb hz)
  · rcases Qcq hta with ⟨_,h1⟩ | ⟨_,op,h1,h2,h3⟩
    · rcases h.known e a h1 hm with h4 | h4 | h4 | ⟨j,h4,h5⟩
      · exact .inl (h4.app _)
      · simp_all
      · simp_all
      · exact .inr (.inr (.inr ⟨j,Qtt h4,h5.app _⟩))
    grind [Qac]
  · rcases Qcq hta with ⟨h0,h1⟩ | ⟨_,op,h1,h2,h3⟩
    · exact (h.grp e a ad h1 hl hb).imp id fun h2=>⟨h2.1,by grind [g?_old]⟩
    · obtain ⟨ad',h4,h5,_⟩:=hop op h1 a h2;cases hl.inj h4;simp_all
  · rcases Qcq hta with ⟨h0,h1⟩ | ⟨_,op,h1,h2,h3⟩
    · exact (h.pay e a ad h1 hl hb j hq).app _
    · obtain ⟨ad',h4,h5,_⟩:=hop op h1 a h2;cases hl.inj h4;simp_all
  · rcases g?_cases hge with ⟨h0,h1⟩ | ⟨_,op,h1,h2,h3⟩
    · rcases h.over e g h1 hne ((counts_old h0).1 hc) with ⟨j,h4,h5⟩ | ⟨j,h4,h5⟩
      · exact .inl ⟨j,by grind [g?_old,lt_of_g?],hb_app _ h5⟩
      · exact .inr ⟨j,Qtt h4,h5.app _⟩
    grind [Qac]
  · rw [Deaf_other t (by omega) _ hg];exact h.above j hj
  · rcases Ej.1 hop' with h1 | h1
    · exact MemAct.low_mono ha.size (h.low op h1)
    · obtain ⟨e,hee,rfl⟩:=Conc.mem_ofEvents h1;refine Qrc (F:=fun b=>F' b) (he e hee) fun b hb=>?_;rcases ha.new b hb with h2 | h2
      · exact Ec (hx.bnd b h2) ha.size
      omega
  · rcases Ej.1 hop' with h1 | h1
    · exact h.norel op h1
    grind [Conc.mem_ofEvents,QJf]
  · have hZ : ∃ y', vs j = some y' /\ y'.Z b := by
      by_cases hj:j=i
      · grind [Qac]
      · rw [JK hj] at hy;obtain ⟨y',h1,rfl⟩:=Ea.1 hy;exact ⟨y',h1,hb⟩
    obtain ⟨y',hy',hb'⟩:=hZ;by_cases h0:0=i
    · subst h0;rw [Qac] at hy0;cases hy0;have hxb:=h.mono j y' x hy' hi b hb';exact ⟨ha.more b hxb,Ec (hx.bnd b hxb) ha.size⟩
    · rw [JK h0] at hy0;obtain ⟨y00,h1,rfl⟩:=Ea.1 hy0;exact h.mono j y' y00 hy' h1 b hb'

theorem QPj {e:Event} (h:e.mute=true):MemAct.ofEvent e≠.mark (.release ga):=by
 obtain ⟨loc,wr,sy⟩:=e;cases loc with
 | mark m=>cases m<;>simp_all [Event.mute,MemAct.ofEvent]
 | _=>trivial
theorem PG.pushes (h:PG Sh ga C Q lim vs n W t) {fn:FuncId} {pos:String} (hin:i < n):∀ (es:List Event) (u:Trace),PG Sh ga C Q lim vs n W (t++u)->(∀ (k:Nat) (e:Event),es[k]?=some e->PushOk ga C Q lim (t++u++MemOp.ofEvents i fn pos (es.take k).toArray) { g:=i,fn:=fn,pos:=pos,act:=.ofEvent e }/\(MemAct.ofEvent e).low W.heap.size/\MemAct.ofEvent e≠.mark (.release ga)) ->
  PG Sh ga C Q lim vs n W (t++u++MemOp.ofEvents i fn pos es.toArray)
 | [],u,hu,_=>by trivial
 | e::es,u,hu,hk=>by
  have h0:=hk 0 e rfl;have e1:t++u++MemOp.ofEvents i fn pos (List.take 0 (e::es)).toArray=t++u:=by rfl
  rw [e1] at h0;have h1:=hu.push h0.1 hin h0.2.1 h0.2.2;have e2:∀ l:List Event,t++u++MemOp.ofEvents i fn pos (e::l).toArray=t++(u++#[{ g:=i,fn:=fn,pos:=pos,act:=.ofEvent e }])++MemOp.ofEvents i fn pos l.toArray:=fun l=>by
   grind [Array.toList_inj,ofEvents_eq]
  rw [e2];refine h.pushes hin es _ (by simp_all) fun k e' he'=>?_;have:=hk (k+1) e' (by trivial);simp_all
theorem PG.mute (h:PG Sh ga C Q lim vs n W t) (hin:i < n) {es:Array Event} (hm:∀ e∈es,e.mute=true) (fn:FuncId) (pos:String):PG Sh ga C Q lim vs n W (t++MemOp.ofEvents i fn pos es):=by
 obtain ⟨l⟩:=es;have:=h.pushes (i:=i) (fn:=fn) (pos:=pos) hin l #[] (by grind) fun k e he=>by
  have hme:e.mute=true:=hm e (by grind);exact ⟨.calm (touch_mute hme),low_mute hme _,QPj hme⟩
 trivial

open Classical in
theorem PG.rel (h:PG Sh ga C Q lim vs n W t) (hin:i < n) (hd:Deaf t i=0) (hli:lim i=.no) (fn:FuncId) (pos:String) :
  PG Sh ga C Q (fun j=>if j=i then .rel else lim j) vs n W (t++#[{ g:=i,fn:=fn,pos:=pos,act:=.mark (.releaseMerge ga) }]):=by
 generalize hy:({ g:=i,fn:=fn,pos:=pos,act:=.mark (.releaseMerge ga) }:MemOp)=y;have hyg:y.g=i:=by grind
 have hya:y.act=.mark (.releaseMerge ga):=by grind
 have hn:y.act.touch?=none:=by rw [hya];rfl
 have hb:=h.push (.calm hn) (by omega) (by rw [hya];exact h.gl) (by grind);have Yk:∀ {e a},touchAt (t++#[y]) e=some a->e < t.size/\touchAt t e=some a:=fun {e a} ha=>by
  rcases Qeq ha with h1 | ⟨_,h1⟩
  ·exact h1
  simp_all
 have key:∀ {j e},e < t.size->Kn ga t (lim j) j e->Kn ga (t++#[y]) (if j=i then .rel else lim j) j e:=fun {j e} he hk=>by
  by_cases hj:j=i
  ·subst hj;rw [if_pos rfl];rw [hli] at hk;obtain ⟨q,z,h1,h2,h3⟩:=hk;have hq:=lt_size_of_getElem? h1;refine ⟨t.size,y,Qdt,hyg,hya,?_,?_⟩
   ·have:=Qli (t1:=t) (y:=y) #[] (by simp_all);trivial
   ·have h4:HappensBefore (t++#[y]) q t.size:=hb_po hq (by grind) Qdt (h2.trans hyg.symm);rcases h3 with rfl | h3
    ·exact h4
    ·exact (hb_app _ h3).trans h4
  ·rw [if_neg hj];exact hk.app _
 refine ⟨fun j x hx=>?_,h.apart,hb.clean,fun e a ha hm=>?_,hb.grp,fun e a ad ha hl hbl j hq=>?_,h.qd,h.qs,fun e g hge hne hc=>?_,hb.above,hb.low,hb.norel,h.mono,h.gl,h.cl,h.gc⟩
 ·obtain ⟨hjn,sx⟩:=h.seen j x hx;exact ⟨hjn,sx.agr,sx.nov,sx.bnd,sx.out,fun e a ad ha hl hF hz=>key (Yk ha).1 (sx.own e a ad (Yk ha).2 hl hF hz),fun e a ad ha hl hz hw=>key (Yk ha).1 (sx.shr e a ad (Yk ha).2 hl hz hw)⟩
 ·obtain ⟨h0,h1⟩:=Yk ha;rcases h.known e a h1 hm with h2 | h2 | h2 | ⟨j,h2,h3⟩
  ·exact .inl (h2.app _)
  ·simp_all
  ·simp_all
  grind
 ·exact key (Yk ha).1 (h.pay e a ad (Yk ha).2 hl hbl j hq)
 ·obtain ⟨a,ha,h9⟩:=id hc;obtain ⟨h0,h1⟩:=Yk (show touchAt (t++#[y]) e=some a from ha);rcases h.over e g (by grind [g?_old]) hne ((counts_old h0).1 hc) with ⟨j,h4,h5⟩ | ⟨j,h4,h5⟩
  ·exact .inl ⟨j,by grind [g?_old,lt_of_g?],hb_app _ h5⟩
  grind

theorem RelK.acq (hr:∀ op∈t,op.act≠.mark (.release ga)) (hd:Deaf t 0=0) (fn:FuncId) (pos:String) {j e:Nat} (hk:RelK ga t j e):Knows (t++#[{ g:=0,fn:=fn,pos:=pos,act:=.mark (.acquire ga) }]) 0 e:=by
 generalize hy:({ g:=0,fn:=fn,pos:=pos,act:=.mark (.acquire ga) }:MemOp)=y;have hyg:y.g=0:=by grind
 have hya:y.act=.mark (.acquire ga):=by grind
 obtain ⟨r,z,h1,h2,h3,h4,h5⟩:=hk;have hr':=lt_size_of_getElem? h1;refine ⟨t.size,y,Qdt,hyg,.inr ((hb_app _ h5).trans (.single (.inr ⟨?_,(heard_old hr').2 h4,?_⟩)))⟩
 ·refine .marked (a:=ga) hr' (.inr ?_) ?_ fun k hk1 hk2=>?_
  ·grind [Trace.act?,getElem?_append_old]
  ·grind [Trace.act?,Qdt]
  grind [Trace.act?,getElem?_append_old,Ea,mem_of_getElem?]
 ·have:=Qli (t1:=t) (y:=y) #[] (by simp_all);trivial
def Lv.acq:Lv->Lv
 | .rel=>.zero
 | l=>l
theorem PG.acq (h:PG Sh ga C Q lim vs n W t) (hin:0 < n) (hd:Deaf t 0=0) (fn:FuncId) (pos:String) :
  PG Sh ga C Q (fun j=>(lim j).acq) vs n W (t++#[{ g:=0,fn:=fn,pos:=pos,act:=.mark (.acquire ga) }]):=by
 have hacq:=fun {j e:Nat} (hk:RelK ga t j e)=>hk.acq h.norel hd fn pos
 generalize hy:({ g:=0,fn:=fn,pos:=pos,act:=.mark (.acquire ga) }:MemOp)=y at hacq ⊢;have hyg:y.g=0:=by grind
 have hya:y.act=.mark (.acquire ga):=by grind
 have hn:y.act.touch?=none:=by rw [hya];rfl
 have hb:=h.push (.calm hn) (by omega) (by rw [hya];exact h.gl) (by grind);have Yk:∀ {e a},touchAt (t++#[y]) e=some a->e < t.size/\touchAt t e=some a:=fun {e a} ha=>by
  rcases Qeq ha with h1 | ⟨_,h1⟩
  ·exact h1
  simp_all
 have key:∀ {j e},Kn ga t (lim j) j e->Kn ga (t++#[y]) (lim j).acq j e:=fun {j e} hk=>by
  cases hl:lim j with
  | no=>rw [hl] at hk;exact Knows.app _ hk
  | rel=>rw [hl] at hk;exact hacq hk
  | zero=>rw [hl] at hk;exact Knows.app _ hk
 refine ⟨fun j x hx=>?_,h.apart,hb.clean,fun e a ha hm=>?_,hb.grp,fun e a ad ha hl hbl j hq=>key (h.pay e a ad (Yk ha).2 hl hbl j hq),h.qd,h.qs,fun e g hge hne hc=>?_,hb.above,hb.low,hb.norel,h.mono,h.gl,h.cl,h.gc⟩
 ·obtain ⟨hjn,sx⟩:=h.seen j x hx;exact ⟨hjn,sx.agr,sx.nov,sx.bnd,sx.out,fun e a ad ha hl hF hz=>key (sx.own e a ad (Yk ha).2 hl hF hz),fun e a ad ha hl hz hw=>key (sx.shr e a ad (Yk ha).2 hl hz hw)⟩
 ·obtain ⟨h0,h1⟩:=Yk ha;rcases h.known e a h1 hm with h2 | h2 | h2 | ⟨j,h2,h3⟩
  ·exact .inl (h2.app _)
  ·simp_all
  ·simp_all
  grind
 ·obtain ⟨a,ha,h9⟩:=id hc;obtain ⟨h0,h1⟩:=Yk (show touchAt (t++#[y]) e=some a from ha);rcases h.over e g (by grind [g?_old]) hne ((counts_old h0).1 hc) with ⟨j,h4,h5⟩ | ⟨j,h4,h5⟩
  ·exact .inl ⟨j,by grind [g?_old,lt_of_g?],hb_app _ h5⟩
  grind
end
end Go.Gw

end
section
set_option linter.unusedVariables false
namespace Go.Gw
open Go Go.Conc
section
variable {Sh:Loc->Prop} {ga:Addr} {C n:Nat} {Q:Nat->Addr->Prop} {lim:Nat->Lv} {vs:Nat->Option View} {W W':World} {t:Trace} {i:Nat} {x y:View}

open Classical in
theorem PG.fork {K:Nat->Prop} {D:Addr->Prop} (h:PG Sh ga C Q lim vs n W t) (h0:vs 0=some x) (hl0:lim 0=.no) (hd0:Deaf t 0=0) (hC:∀ b,K b->x.F b) (hR:Rows K x.w) (hD:∀ ad,D ad->Q 0 ad) (fn fn':FuncId) (pos pos':String) :
    PG Sh ga C (fun j ad=>if j=0 then Q 0 ad/\¬ D ad else if j=n then D ad else Q j ad) (fun j=>if j=n then .no else lim j)
      (fun j=>if j=0 then some ⟨x.F,fun b=>x.Z b\/K b,frz K x.w⟩ else if j=n then some ⟨fun b=>x.Z b\/K b,fun b=>x.Z b\/K b,hid (fun b=>x.Z b\/K b) (frz K x.w)⟩ else vs j) (n+1) W
      (t++#[{ g:=0,fn:=fn,pos:=pos,act:=.go n }]++#[{ g:=n,fn:=fn',pos:=pos',act:=.start }]):=by
  have hn0:0 < n:=(h.seen 0 x h0).1;have hx:=(h.seen 0 x h0).2;have hdn:=h.above n (En _);have Yk:∀ {e a},touchAt (t++#[{ g:=0,fn:=fn,pos:=pos,act:=.go n }]++#[{ g:=n,fn:=fn',pos:=pos',act:=.start }]) e=some a->touchAt t e=some a:=fun {e a} ha=>QEr (Qks n 0 fn pos) (QEr (Qqn n fn' pos') ha)
  have hknow:∀ {e},Knows t 0 e->Knows (t++#[{ g:=0,fn:=fn,pos:=pos,act:=.go n }]++#[{ g:=n,fn:=fn',pos:=pos',act:=.start }]) n e:=fun hk=>QMl hd0 hdn hk
  have hdeaf:∀ j,Deaf (t++#[{ g:=0,fn:=fn,pos:=pos,act:=.go n }]++#[{ g:=n,fn:=fn',pos:=pos',act:=.start }]) j=Deaf t j:=fun j=>by grind [Qqr,Qqn,Qks]
  have hlt:∀ {e a},touchAt t e=some a->e < t.size:=fun ha=>by obtain ⟨op,ho,_⟩:=touch_of ha;grind
  have hrace:∀ said,¬ Race said (t++#[{ g:=0,fn:=fn,pos:=pos,act:=.go n }]++#[{ g:=n,fn:=fn',pos:=pos',act:=.start }]):=fun said=>by
    refine noRace_append (g:=n) (noRace_append (g:=0) (h.clean said) (fun op hop=>?_) fun e a _ op hop b hb _=>?_) (fun op hop=>?_) fun e a _ op hop b hb _=>?_
    all_goals (rw [Array.mem_singleton.1 hop] at *)
    · trivial
    trivial
  have happ:∀ {l j e},Kn ga t l j e->Kn ga (t++#[{ g:=0,fn:=fn,pos:=pos,act:=.go n }]++#[{ g:=n,fn:=fn',pos:=pos',act:=.start }]) l j e:=fun hk=>(hk.app _).app _
  have hg2:∀ e,e < t.size->(t++#[{ g:=0,fn:=fn,pos:=pos,act:=.go n }]++#[{ g:=n,fn:=fn',pos:=pos',act:=.start }]:Trace).g? e=t.g? e:=fun e he=>by rw [Ef];exact g?_old he
  have hc2:∀ e,e < t.size->((t++#[{ g:=0,fn:=fn,pos:=pos,act:=.go n }]++#[{ g:=n,fn:=fn',pos:=pos',act:=.start }]:Trace).counts e↔t.counts e):=fun e he=>by rw [Ef];exact counts_old he
  have hb2:∀ e j,HappensBefore t e j->HappensBefore (t++#[{ g:=0,fn:=fn,pos:=pos,act:=.go n }]++#[{ g:=n,fn:=fn',pos:=pos',act:=.start }]) e j:=fun e j hk=>hb_app _ (hb_app _ hk)
  have hop2:∀ op∈t++#[{ g:=0,fn:=fn,pos:=pos,act:=.go n }]++#[{ g:=n,fn:=fn',pos:=pos',act:=.start }],op∈t\/op.act=.go n\/op.act=.start:=fun op hop=>by
    grind
  generalize (t++#[{ g:=0,fn:=fn,pos:=pos,act:=.go n }]++#[{ g:=n,fn:=fn',pos:=pos',act:=.start }]:Trace)=t2 at Yk hknow hdeaf hrace happ hg2 hc2 hb2 hop2 ⊢;have hone:∀ j y,vs j=some y->j≠n:=fun j y hy e=>by have:=(h.seen j y hy).1;omega
  have hones:∀ j,(vs j).isSome=true->j≠n:=fun j hj=>by
    grind [Eg]
  have hsome:∀ j,(vs j).isSome=true->((if j=0 then some (⟨x.F,fun b=>x.Z b\/K b,frz K x.w⟩:View) else if j=n then some ⟨fun b=>x.Z b\/K b,fun b=>x.Z b\/K b,hid (fun b=>x.Z b\/K b) (frz K x.w)⟩ else vs j)).isSome=true:=fun j hj=>by
    grind
  have hagr:=hx.agr.frz hC hR;have hF:∀ b,(x.Z b\/K b)->x.F b:=fun b hz=>hz.elim (hx.agr.zf b) (hC b)
  have hap0:∀ j y,j≠0->vs j=some y->∀ b,x.F b->y.F b->x.Z b/\y.Z b:=fun j y hj hy=>h.apart 0 j x y (Ne.symm hj) h0 hy
  have own0:∀ {e a ad},touchAt t e=some a->AtL a.loc ad->x.F ad.block->¬ x.Z ad.block->Knows t 0 e:=fun ha hl hF' hz=>(hx.own _ _ _ ha hl hF' hz).no hl0
  have shr0:∀ {e a ad},touchAt t e=some a->AtL a.loc ad->x.Z ad.block->a.write=true->Knows t 0 e:=fun ha hl hz hw=>(hx.shr _ _ _ ha hl hz hw).no hl0
  refine ⟨fun j y hy=>?_,fun j k y z hjk hy hz=>?_,hrace,fun e a ha hm=>?_,fun e a ad ha hl hb=>?_,fun e a ad ha hl hb j hq=>?_,fun j k ad hjk hj hk=>?_,fun j ad hq=>?_,fun e g hge hne hc=>?_,fun j hj=>by rw [hdeaf];exact h.above j (by omega),fun op hop=>?_,fun op hop=>?_,fun j y y0 hy hy0 b hz=>?_,h.gl,h.cl,h.gc⟩
  · by_cases hj:j=0
    · subst hj;rw [if_pos rfl] at hy;cases hy;have hn':(if (0:Nat)=n then Lv.no else lim 0)=Lv.no:=by simp_all
      rw [hn'];refine ⟨by omega,hagr,hx.nov.frz,hx.bnd,hx.out,fun e a ad ha hl hFb hz=>?_,fun e a ad ha hl hz hw=>?_⟩
      · exact happ (l:=.no) (own0 (Yk ha) hl hFb (fun e=>hz (.inl e)))
      · by_cases hZ:x.Z ad.block
        · exact happ (l:=.no) (shr0 (Yk ha) hl hZ hw)
        · exact happ (l:=.no) (own0 (Yk ha) hl (hF _ hz) hZ)
    · rw [if_neg hj] at hy;by_cases hjn:j=n
      · subst hjn;rw [if_pos rfl] at hy;cases hy;rw [if_pos rfl];refine ⟨by omega,hagr.hide (fun b=>Iff.rfl),hx.nov.frz.hide,fun b hb=>hx.bnd b (hF b hb),fun b hb hc=>hx.out b hb (hF b hc),fun e a ad ha hl hFb hz=>absurd hFb hz,fun e a ad ha hl hz hw=>?_⟩;refine hknow ?_
        grind
      · rw [if_neg hjn] at hy ⊢;obtain ⟨h1,sy⟩:=h.seen j y hy;exact ⟨by omega,sy.agr,sy.nov,sy.bnd,sy.out,fun e a ad ha hl hF hz=>happ (sy.own e a ad (Yk ha) hl hF hz),fun e a ad ha hl hz hw=>happ (sy.shr e a ad (Yk ha) hl hz hw)⟩
  · have main : ∀ k z, k ≠ 0 -> (if k = 0 then some (⟨x.F, fun b => x.Z b \/ K b, frz K x.w⟩ : View) else if k = n then some ⟨fun b => x.Z b \/ K b, fun b => x.Z b \/ K b, hid (fun b => x.Z b \/ K b) (frz K x.w)⟩ else vs k) = some z -> Apart ⟨x.F, fun b => x.Z b \/ K b, frz K x.w⟩ z := fun k z hk hz b h1 h2 => by
      grind
    have chld:∀ k z,k≠0->k≠n->vs k=some z->Apart ⟨fun b=>x.Z b\/K b,fun b=>x.Z b\/K b,hid (fun b=>x.Z b\/K b) (frz K x.w)⟩ z:=fun k z hk hkn hz b h1 h2=>⟨h1,(hap0 k z hk hz b (hF b h1) h2).2⟩
    by_cases hj:j=0
    · grind
    · by_cases hk:k=0
      · subst hk;rw [if_pos rfl] at hz;cases hz;exact (main j y hj hy).symm
      · rw [if_neg hj] at hy;rw [if_neg hk] at hz;by_cases hjn:j=n
        · grind
        · rw [if_neg hjn] at hy;by_cases hkn:k=n
          · subst hkn;rw [if_pos rfl] at hz;cases hz;exact (chld j y hj hjk hy).symm
          · rw [if_neg hkn] at hz;exact h.apart j k y z hjk hy hz
  · rcases h.known e a (Yk ha) hm with h4 | h4 | h4 | ⟨j,h4,h5⟩
    · exact .inl (happ (l:=.no) h4)
    · simp_all
    · simp_all
    grind
  · have h1:=hlt (Yk ha);exact (h.grp e a ad (Yk ha) hl hb).imp id fun h2=>⟨h2.1,by grind⟩
  · by_cases hj:j=0
    · subst hj;rw [if_pos rfl] at hq;have:=h.pay e a ad (Yk ha) hl hb 0 hq.1;simp_all
    · rw [if_neg hj] at hq;by_cases hjn:j=n
      · subst hjn;rw [if_pos rfl] at hq ⊢;exact hknow ((h.pay e a ad (Yk ha) hl hb 0 (hD ad hq)).no hl0)
      · rw [if_neg hjn] at hq ⊢;exact happ (h.pay e a ad (Yk ha) hl hb j hq)
  · have ne0 : ∀ k, k ≠ 0 -> (if k = 0 then Q 0 ad /\ ¬ D ad else if k = n then D ad else Q k ad) -> ¬ (Q 0 ad /\ ¬ D ad) := fun k hk hq h0' => by
      rw [if_neg hk] at hq;by_cases hkn:k=n
      · simp_all
      · rw [if_neg hkn] at hq;exact h.qd k 0 ad hk hq h0'.1
    have nen:∀ k,k≠0->k≠n->Q k ad->¬ D ad:=fun k hk hkn hq hd=>h.qd k 0 ad hk hq (hD ad hd)
    by_cases hj0:j=0
    · grind
    · by_cases hk0:k=0
      · simp_all
      · rw [if_neg hj0] at hj;rw [if_neg hk0] at hk;by_cases hjn:j=n
        · simp_all
        · rw [if_neg hjn] at hj;by_cases hkn:k=n
          · simp_all
          · rw [if_neg hkn] at hk;exact h.qd j k ad hjk hj hk
  · by_cases hj:j=0
    · grind
    · by_cases hjn:j=n
      · simp_all
      · simp only [if_neg hj,if_neg hjn] at hq ⊢;exact h.qs j ad hq
  · obtain ⟨a,ha,h9⟩:=id hc;have h1:=hlt (Yk (show touchAt t2 e=some a from ha));rcases h.over e g (by simp_all) hne ((hc2 e h1).1 hc) with ⟨j,h4,h5⟩ | ⟨j,h4,h5⟩
    · grind [lt_of_g?]
    grind
  · rcases hop2 op hop with h1 | h1 | h1
    · exact h.low op h1
    · rw [h1];trivial
    · rw [h1];trivial
  · rcases hop2 op hop with h1 | h1 | h1
    · exact h.norel op h1
    · grind
    simp_all
  · rw [if_pos rfl] at hy0;cases hy0;by_cases hj:j=0
    · grind
    · rw [if_neg hj] at hy;by_cases hjn:j=n
      · grind
      · rw [if_neg hjn] at hy;exact h.mono j y x hy h0 b hz

theorem QPf {B:Nat->Prop} {l l':Lv} (hx:SeenG ga B l x W t 0) (hy:SeenG ga B l' y W t i):NoView (merge x y):=fun b a u e=>by
 rw [Qec] at e;cases hb:x.w.heap[b]? with
 | none=>simp_all
 | some o =>
  rw [hb] at e;simp only [Ek,Eo.injEq] at e;split at e
  ·subst e;exact hx.nov b a u hb
  ·split at e
   ·cases hyb:y.w.heap[b]? with
    | none=>rw [hyb] at e;cases e
    | some o'=>rw [hyb] at e;simp at e;subst e;exact hy.nov b a u hyb
   ·cases e
theorem PG.merge (h:PG Sh ga C Q lim vs n W t) (h0:vs 0=some x) (hl0:lim 0=.no) (hi:vs i=some y) (hi0:i≠0) (met:∀ e,Kn ga t (lim i) i e->Knows t 0 e) :
    PG Sh ga C (fun j ad=>if j=0 then Q 0 ad\/Q i ad else if j=i then False else Q j ad) lim (fun j=>if j=0 then some ⟨fun b=>x.F b\/y.F b,x.Z,Gw.merge x y⟩ else if j=i then none else vs j) n W t:=by
  have hx:=(h.seen 0 x h0).2;have hy:=(h.seen i y hi).2;have hap:=h.apart 0 i x y (Ne.symm hi0) h0 hi;have hzz:∀ b,y.Z b->x.F b:=h.mono i y x hi h0;have hag:=QPd hx.agr hy.agr hap hzz hy.bnd;have own0:∀ {e},Kn ga t (lim 0) 0 e->Knows t 0 e:=fun hk=>hk.no hl0
  refine ⟨fun j z hz=>?_,fun j k z z' hjk hz hz'=>?_,h.clean,fun e a ha hm=>?_,h.grp,fun e a ad ha hl hb j hq=>?_,fun j k ad hjk hj hk=>?_,fun j ad hq=>?_,fun e g hge hne hc=>?_,h.above,h.low,h.norel,fun j z z0 hz hz0 b hbz=>?_,h.gl,h.cl,h.gc⟩
  · by_cases hj:j=0
    · subst hj;rw [if_pos rfl] at hz;cases hz;rw [hl0];refine ⟨(h.seen 0 x h0).1,hag,QPf hx hy,fun b hF=>hF.elim (hx.bnd b) (hy.bnd b),fun b hb e=>e.elim (hx.out b hb) (hy.out b hb),fun e a ad ha hl hF hz=>?_,fun e a ad ha hl hz hw=>(hx.shr e a ad ha hl hz hw).no hl0⟩;by_cases hxF:x.F ad.block
      · exact (hx.own e a ad ha hl hxF hz).no hl0
      · exact met e (hy.own e a ad ha hl (hF.resolve_left hxF) (fun e=>hxF (hzz _ e)))
    · rw [if_neg hj] at hz;by_cases hji:j=i
      · simp_all
      · rw [if_neg hji] at hz;exact h.seen j z hz
  · have main : ∀ k z, k ≠ 0 -> (if k = 0 then some (⟨fun b => x.F b \/ y.F b, x.Z, Gw.merge x y⟩ : View) else if k = i then none else vs k) = some z -> Apart ⟨fun b => x.F b \/ y.F b, x.Z, Gw.merge x y⟩ z := fun k z hk hz b h1 h2 => by
      rw [if_neg hk] at hz;by_cases hki:k=i
      · simp_all
      · rw [if_neg hki] at hz;by_cases hxF:x.F b
        · exact h.apart 0 k x z (Ne.symm hk) h0 hz b hxF h2
        · have:=h.apart i k y z (Ne.symm hki) hi hz b (h1.resolve_left hxF) h2;simp_all
    by_cases hj:j=0
    · grind
    · by_cases hk:k=0
      · subst hk;rw [if_pos rfl] at hz';cases hz';exact (main j z hj hz).symm
      · rw [if_neg hj] at hz;rw [if_neg hk] at hz';by_cases hji:j=i
        · simp_all
        · rw [if_neg hji] at hz;by_cases hki:k=i
          · simp_all
          · rw [if_neg hki] at hz';exact h.apart j k z z' hjk hz hz'
  · rcases h.known e a ha hm with h4 | h4 | h4 | ⟨j,h4,h5⟩
    · grind
    · simp_all
    · simp_all
    grind
  · by_cases hj:j=0
    · subst hj;rw [if_pos rfl] at hq;rw [hl0];rcases hq with hq | hq
      · exact own0 (h.pay e a ad ha hl hb 0 hq)
      · exact met e (h.pay e a ad ha hl hb i hq)
    · rw [if_neg hj] at hq;by_cases hji:j=i
      · simp_all
      · rw [if_neg hji] at hq;exact h.pay e a ad ha hl hb j hq
  · have key : ∀ k, k ≠ 0 -> (if k = 0 then Q 0 ad \/ Q i ad else if k = i then False else Q k ad) -> ¬ (Q 0 ad \/ Q i ad) := fun k hk hq h0' => by
      rw [if_neg hk] at hq;by_cases hki:k=i
      · simp_all
      · rw [if_neg hki] at hq;exact h0'.elim (h.qd k 0 ad hk hq) (h.qd k i ad hki hq)
    by_cases hj0:j=0
    · grind
    · by_cases hk0:k=0
      · grind
      · rw [if_neg hj0] at hj;rw [if_neg hk0] at hk;by_cases hji:j=i
        · simp_all
        · rw [if_neg hji] at hj;by_cases hki:k=i
          · simp_all
          · rw [if_neg hki] at hk;exact h.qd j k ad hjk hj hk
  · by_cases hj:j=0
    · grind
    · by_cases hji:j=i
      · simp_all
      · simp only [if_neg hj,if_neg hji] at hq ⊢;exact h.qs j ad hq
  · have out : ∀ e, Knows t 0 e -> t.g? e = some g -> ∃ j, t.g? j = some 0 /\ HappensBefore t e j := fun e ⟨q, z, h1, h2, h3⟩ hge => by
      rcases h3 with rfl | h3
      · grind [absurd,Trace.g?]
      grind [Trace.g?]
    rcases h.over e g hge hne hc with h4 | ⟨j,h4,h5⟩
    · grind
    grind
  · rw [if_pos rfl] at hz0;cases hz0;by_cases hj:j=0
    · subst hj;rw [if_pos rfl] at hz;cases hz;exact .inl (hx.agr.zf b hbz)
    · rw [if_neg hj] at hz;by_cases hji:j=i
      · simp_all
      · rw [if_neg hji] at hz;exact .inl (h.mono j z x hz h0 b hbz)
end
end Go.Gw

end
section
set_option linter.unusedVariables false
namespace Go.Gw
open Go Go.Conc
open Go.ConcR (KK wgBlock WgAt stA smA rd wr mk)

inductive Stg where
 | A | B | C | D2 | D3 | D4
inductive Ph where
 | priv
 | lib (s:Stg)
 | quit
 | gone
def Ph.lim:Ph->Lv
 | .priv | .lib .A=>.no
 | .gone=>.zero
 | _=>.rel
def Ph.pre:Ph->Bool
 | .priv | .lib .A | .lib .B | .lib .C=>true
 | _=>false
def Ph.late:Ph->Bool
 | .lib .D2 | .lib .D3 | .lib .D4=>true
 | _=>false
def Stg.deaf:Stg->Nat
 | .A | .B=>0
 | _=>1
inductive Rg where
 | un | reg | fin | acq

section
variable (P:Program) (ty:TypeId) (Wg C:Nat)
def Live (W:World):Prop:=∃ st sm,WgAt ty Wg W st sm
def LW:Nat->Stg->Goroutine->Prop
  | 0,_,_=>False
  | m+1,s,g=>g.status=.running /\
    ((∀ W,Live ty Wg W->∃ g',stepG P false g W=.go g' W #[]/\LW m s g') \/
      match s with
      | .A=>∃ g',(∀ W,Live ty Wg W->stepG P false g W=.go g' W #[ConcR.mk (.releaseMerge (stA Wg))])/\LW m .B g'
      | .B=>∃ g',(∀ W,Live ty Wg W->stepG P false g W=.go g' W #[ConcR.mk .disable])/\LW m .C g'
      | .C => ∀ v wt : Nat, wt <= 1 -> v < 2147483647 -> ∃ g', (∀ W, WgAt ty Wg W (((v + 1 : Nat) : Int) * KK + (wt : Int)) 0 -> stepG P false g W = .go g' (W.setCell (stA Wg) (.int .u64 ((v : Int) * KK + (wt : Int)))) #[rd (stA Wg), wr (stA Wg)]) /\
          ((v=0/\wt=1)->LW m .D2 g')/\(¬ (v=0/\wt=1)->QuitsD P m 1 g')
      | .D2=>∃ g',(∀ W,WgAt ty Wg W 1 0->stepG P false g W=.go g' W #[rd (stA Wg)])/\LW m .D3 g'
      | .D3=>∃ g',(∀ W,WgAt ty Wg W 1 0->stepG P false g W=.go g' (W.setCell (stA Wg) (.int .u64 0)) #[wr (stA Wg)])/\LW m .D4 g'
      | .D4=>mayWake P g=true/\∃ g',(∀ W,WgAt ty Wg W 0 0->stepG P false g W=.go g' (W.setCell (smA Wg) (.int .u32 1)) (semEvents (smA Wg)))/\QuitsD P m 1 g')
def Qdo (k:Nat) (φ:Value->World->Prop) (m:Nat) (g:Goroutine) (w:World):Prop :=
 g.status=.running/\∃ g' v,(∀ W cs e,W.heap[C]?=some (.cells cs e (0,0))->k < cs.size->stepG P false g W=.go g' (W.setCell ⟨C,k,none⟩ v) #[⟨.cell ⟨C,k,none⟩,true,false⟩])/\LW P ty Wg m .A g'/\∀ w1,Rel w w1->φ v w1
def RoleG (v:Option View) (k:Nat) (φ:Value->World->Prop) (p:Ph) (cs:Array Value) (d:Nat) (r:Tr) (g:Goroutine):Prop :=
 match v with
 | none=>∃ m,r=nt m/\QuitsD P m d g
 | some x =>
  match p with
  | .priv=>d=0/\WT P x.Z (Qdo P ty Wg C k φ) r g x.w
  | .lib s=>(∃ m,r=nt m/\LW P ty Wg m s g/\d=s.deaf)/\∃ u,cs[k]?=some u/\∀ w1,Rel x.w w1->φ u w1
  | .quit | .gone=>(∃ m,r=nt m/\QuitsD P m d g)/\∃ u,cs[k]?=some u/\∀ w1,Rel x.w w1->φ u w1
def GrpOk (rg:Rg) (pd:Nat) (bl:Bool) (st:Nat->Ph) (A:List Nat) (W:World):Prop :=
  match rg with
  | .un=>WgAt ty Wg W (((A.countP (fun i=>(st i).pre)+pd:Nat):Int) * KK) 0/\(∀ i∈A,(st i).late=false)/\bl=false
  | .reg => pd = 0 /\ ((0 < A.countP (fun i => (st i).pre) /\ WgAt ty Wg W (((A.countP (fun i => (st i).pre) : Nat) : Int) * KK + 1) 0 /\ ∀ i ∈ A, (st i).late = false) \/
      (A.countP (fun i=>(st i).pre)=0/\∃ i∈A,(((st i=.lib .D2\/st i=.lib .D3)/\WgAt ty Wg W 1 0)\/(st i=.lib .D4/\WgAt ty Wg W 0 0))/\∀ j∈A,j≠i->(st j).late=false) \/
      (A.countP (fun i=>(st i).pre)=0/\bl=false/\WgAt ty Wg W 0 1/\∀ i∈A,(st i).late=false))
  | .fin=>pd=0/\A.countP (fun i=>(st i).pre)=0/\WgAt ty Wg W 0 0/\bl=false/\∀ i∈A,(st i).late=false
  | .acq=>pd=0/\WgAt ty Wg W 0 0/\bl=false/\∀ i∈A,st i=.gone
end
def Yj (bl:Bool) (gm:Goroutine):Goroutine:=if bl then { gm with status:=.blocked } else gm

structure CfgG (P : Program) (Sh : Loc -> Prop) (ty : TypeId) (Wg C N : Nat) (et : TypeId) (cs0 : Array Value) (Fs : Nat -> Prop) (Ws : World) (pd : Nat) (rg : Rg) (bl : Bool) (d0 : Nat) (Z : Nat -> Prop) (orig : Nat -> Option Obj)
  (O:List (Nat×(Value->World->Prop))) (gm:Goroutine) (w:World) (vs:Nat->Option View) (st:Nat->Ph) (slot:Nat->Nat) (ph:Nat->Value->World->Prop) (A:List Nat) (τ:List Tr) (cs:Array Value) (Q:Nat->Addr->Prop)
  (gs:Array Goroutine) (W:World) (t:Trace):Prop where
 pg:PG Sh (stA Wg) C Q (fun i=>(st i).lim) vs gs.size W t
 main:∃ F,vs 0=some ⟨F,Z,w⟩/\∀ b,Fs b->b≠C->F b
 m0:(st 0).lim=.no
 dm:Deaf t 0=d0
 g0:gs[0]?=some (Yj bl gm)
 run:gm.status=.running
 off:bl=true->gm.offers=none
 len:τ.length=gs.size
 nod:A.Nodup
 act:∀ i,i∈A↔i≠0/\(vs i).isSome=true
 posts:O=A.map fun i=>(slot i,ph i)
 sln:(A.map slot).Nodup
 slN:∀ i∈A,slot i < N
 oth:∀ i gi,i≠0->gs[i]?=some gi->∃ r,τ[i]?=some r/\RoleG P ty Wg C (vs i) (slot i) (ph i) (st i) cs (Deaf t i) r gi
 q:∀ i∈A,Q i ⟨C,slot i,none⟩
 q0:∀ ad:Addr,ad.block=C->(∀ i∈A,ad≠⟨C,slot i,none⟩)->Q 0 ad
 row:W.heap[C]?=some (.cells cs et (0,0))
 rsz:cs.size=N
 rold:∀ k,(∀ i∈A,slot i≠k)->cs[k]?=cs0[k]?
 orig:∀ b,Z b->W.heap[b]?=orig b
 bas:∀ i x,vs i=some x->∀ b,x.F b->Fs b\/Ws.heap.size<=b
 size:Ws.heap.size<=W.heap.size
 keep:∀ b,b < Ws.heap.size->¬ Fs b->W.heap[b]?=Ws.heap[b]?
 same:W.tape=Ws.tape/\W.os=Ws.os/\W.output=Ws.output
 wgs:Ws.heap.size<=Wg
 cF:Fs C
 grp:GrpOk ty Wg rg pd bl st A W

section
variable {P:Program} {Sh:Loc->Prop} {ty:TypeId} {Wg C N:Nat} {et:TypeId} {cs0:Array Value} {Fs:Nat->Prop} {Ws:World} {pd:Nat} {rg:Rg} {bl:Bool} {d0:Nat} {Z:Nat->Prop} {orig:Nat->Option Obj}
variable {O:List (Nat×(Value->World->Prop))} {gm:Goroutine} {w:World} {vs:Nat->Option View} {st:Nat->Ph} {slot:Nat->Nat} {ph:Nat->Value->World->Prop} {A:List Nat} {τ:List Tr} {cs:Array Value} {Q:Nat->Addr->Prop}
variable {gs:Array Goroutine} {W:World} {t:Trace}

theorem LW.running {m:Nat} {s:Stg} {g:Goroutine} (h:LW P ty Wg m s g):g.status=.running:=by
 cases m with
 | zero=>exact h.elim
 | succ m=>exact h.1
theorem RoleG.place {v:Option View} {k:Nat} {φ:Value->World->Prop} {p:Ph} {d:Nat} {r:Tr} {g:Goroutine} (h:RoleG P ty Wg C v k φ p cs d r g):g.status=.running\/g.status=.finished:=by
 cases v with
 | none=>obtain ⟨m,_,hq⟩:=h;exact hq.status
 | some x =>
  cases p with
  | priv=>exact .inl h.2.running
  | lib s=>obtain ⟨⟨m,_,hl,_⟩,_⟩:=h;exact .inl hl.running
  | quit=>obtain ⟨⟨m,_,hq⟩,_⟩:=h;exact hq.status
  | gone=>obtain ⟨⟨m,_,hq⟩,_⟩:=h;exact hq.status
theorem RoleG.grown {v:Option View} {k:Nat} {φ:Value->World->Prop} {p:Ph} {d:Nat} {r:Tr} {g:Goroutine} (h:RoleG P ty Wg C v k φ p cs d r g) (f:View->View) (hf:∀ x,(f x).Z=x.Z/\Rel x.w (f x).w):RoleG P ty Wg C (v.map f) k φ p cs d r g:=by
 cases v with
 | none=>exact h
 | some x =>
  obtain ⟨h1,h2⟩:=hf x;cases p with
  | priv=>exact ⟨h.1,by rw [h1];exact h.2.rely h2⟩
  | lib s=>obtain ⟨h3,u,h4,h5⟩:=h;exact ⟨h3,u,h4,fun w1 r=>h5 w1 (h2.trans r)⟩
  | quit=>obtain ⟨h3,u,h4,h5⟩:=h;exact ⟨h3,u,h4,fun w1 r=>h5 w1 (h2.trans r)⟩
  | gone=>obtain ⟨h3,u,h4,h5⟩:=h;exact ⟨h3,u,h4,fun w1 r=>h5 w1 (h2.trans r)⟩
theorem RoleG.cells {v:Option View} {k:Nat} {φ:Value->World->Prop} {p:Ph} {d:Nat} {r:Tr} {g:Goroutine} {cs':Array Value} (h:RoleG P ty Wg C v k φ p cs d r g) (he:cs'[k]?=cs[k]?):RoleG P ty Wg C v k φ p cs' d r g:=by
 cases v with
 | none=>exact h
 | some x =>
  cases p with
  | priv=>exact h
  | lib s=>obtain ⟨h3,u,h4,h5⟩:=h;exact ⟨h3,u,he.trans h4,h5⟩
  | quit=>obtain ⟨h3,u,h4,h5⟩:=h;exact ⟨h3,u,he.trans h4,h5⟩
  | gone=>obtain ⟨h3,u,h4,h5⟩:=h;exact ⟨h3,u,he.trans h4,h5⟩

theorem Qpf {g g':Goroutine} {W':World} (hr:gm.status=.running) (ho:bl=true->gm.offers=none):∃ bl',Conc.woken P g g' W' (Yj bl gm)=Yj bl' gm/\(bl=false->bl'=false)/\(bl'=true->bl=true)/\(mayWake P g=true->(g'.status=.running\/g'.status=.finished)->bl'=false):=by
 cases bl with
 | false=>exact ⟨false,woken_run hr,fun _=>rfl,fun h=>h,fun _ _=>rfl⟩
 | true =>
  have hag:∀ w,(Yj true gm).again w=gm:=fun w=>Go.ConcR.again_blocked hr (ho rfl) w
  unfold Conc.woken;split
  ·exact ⟨false,hag _,fun h=>(by cases h),fun h=>(by cases h),fun _ _=>rfl⟩
  grind
theorem CfgG.awake (h:CfgG P Sh ty Wg C N et cs0 Fs Ws pd rg bl d0 Z orig O gm w vs st slot ph A τ cs Q gs W t):∀ g∈gs,Conc.awake g:=fun g hg=>by
 obtain ⟨i,hi,rfl⟩:=Array.mem_iff_getElem.1 hg;by_cases hi0:i=0
 ·subst hi0;have h0:=h.g0;rw [Ee hi] at h0;rw [Eo.inj h0];intro t ht;have:=h.run
  grind [Yj]
 ·obtain ⟨r,_,hr⟩:=h.oth i _ hi0 (Ee hi);exact awake_of (hr.place.elim .inl fun x=>.inr (.inr x))
theorem CfgG.woken (h:CfgG P Sh ty Wg C N et cs0 Fs Ws pd rg bl d0 Z orig O gm w vs st slot ph A τ cs Q gs W t) {g g':Goroutine} {W':World} {bl':Bool} (hb:Conc.woken P g g' W' (Yj bl gm)=Yj bl' gm) :
  gs.map (Conc.woken P g g' W')=gs.setIfInBounds 0 (Yj bl' gm):=by
 apply Array.ext_getElem?;intro i;rw [Array.getElem?_map];by_cases hi0:i=0
 ·subst hi0;have hlt:=(Eb.1 h.g0).1;rw [h.g0]
  grind
 ·rw [Ed (Ne.symm hi0)];cases hi:gs[i]? with
  | none=>rfl
  | some o =>
   simp only [Ek,Eo.injEq];obtain ⟨r,_,hr⟩:=h.oth i o hi0 hi;unfold Conc.woken;split
   ·exact again_running _ hr.place
   ·rfl
theorem CfgG.at (h:CfgG P Sh ty Wg C N et cs0 Fs Ws pd rg bl d0 Z orig O gm w vs st slot ph A τ cs Q gs W t) (d:Nat):CfgG P Sh ty Wg C N et cs0 Fs Ws pd rg bl d0 Z orig O gm (w.at d) (Qcz vs d) st slot ph A τ cs Q gs (W.at d) t:=by
 obtain ⟨F,h0,hF⟩:=h.main;refine ⟨h.pg.at d,⟨F,by simp [Qcz,h0],hF⟩,h.m0,h.dm,h.g0,h.run,h.off,h.len,h.nod,fun i=>by rw [Qkx];exact h.act i,h.posts,h.sln,h.slN,fun i gi hi hg=>?_,h.q,h.q0,h.row,h.rsz,h.rold,h.orig,fun i x hx b hb=>?_,h.size,h.keep,h.same,h.wgs,h.cF,h.grp⟩
 ·obtain ⟨r,h1,h2⟩:=h.oth i gi hi hg;exact ⟨r,h1,h2.grown _ fun x=>⟨rfl,J0 _ d⟩⟩
 ·obtain ⟨y,hy,rfl⟩:=Ea.1 hx;exact h.bas i y hy b hb
theorem CfgG.pick (h:CfgG P Sh ty Wg C N et cs0 Fs Ws pd rg bl d0 Z orig O gm w vs st slot ph A τ cs Q gs W t) (hr:∃ (i:Nat) (gi:Goroutine),gs[i]?=some gi/\gi.status=.running) (sl:Option (Nat×Nat)) :
  ∃ (i:Nat) (gi:Goroutine) (d:Nat) (sl':Option (Nat×Nat)),gs[i]?=some gi/\gi.status=.running/\stepT P (crowd gs W sl)=runT P (crowd gs (W.at d) sl') i/\CfgG P Sh ty Wg C N et cs0 Fs Ws pd rg bl d0 Z orig O gm (w.at d) (Qcz vs d) st slot ph A τ cs Q gs (W.at d) t:=by
 obtain ⟨i,gi,d,sl',h1,h2,h3⟩:=crowd_pick (P:=P) (w:=W) (sl:=sl) h.awake hr;exact ⟨i,gi,d,sl',h1,h2,h3,h.at d⟩
theorem QBk {f:Nat->Nat}:∀ {l:List Nat},(l.map f).Nodup->∀ {a b:Nat},a∈l->b∈l->f a=f b->a=b
 | [],_,_,_,ha,_,_=>by cases ha
 | x::l,h,a,b,ha,hb,e=>by
  rw [List.map_cons,Em] at h;rcases El.1 ha with rfl | ha'<;>rcases El.1 hb with rfl | hb'
  ·rfl
  ·exact absurd (e▸Er hb') h.1
  ·exact absurd (e▸Er ha') h.1
  ·exact QBk h.2 ha' hb' e
theorem Qiu {i:Nat} {fn:FuncId} {pos:String} {es:Array Event}:∀ op∈MemOp.ofEvents i fn pos es,op.g=i:=fun op hop=>by grind [Conc.mem_ofEvents]

open Classical in
theorem CfgG.lib (h:CfgG P Sh ty Wg C N et cs0 Fs Ws pd rg bl d0 Z orig O gm w vs st slot ph A τ cs Q gs W t) {i:Nat} {gi g':Goroutine} {x:View} {W':World} {es:Array Event} {s':Ph} {r r':Tr} {cs':Array Value} {bl':Bool} (sl:Option (Nat×Nat))
    (hi:gs[i]?=some gi) (hi0:i≠0) (hv:vs i=some x) (hstep:stepG P false gi W=.go g' W' es)
    (hpg:PG Sh (stA Wg) C Q (fun j=>(if j=i then s' else st j).lim) vs gs.size W' (t++MemOp.ofEvents i gi.frame.fn gi.frame.place es)) (hτ:τ[i]?=some r) (hsub:Tr.sub r' r)
    (hrole:RoleG P ty Wg C (some x) (slot i) (ph i) s' cs' (deafBehind (Deaf t i) es) r' g') (hcs:cs'.size=N) (hcs2:∀ k,k≠slot i->cs'[k]?=cs[k]?) (hrow:W'.heap[C]?=some (.cells cs' et (0,0)))
    (hW:W'.tape=W.tape/\W'.os=W.os/\W'.output=W.output/\W'.heap.size=W.heap.size) (hblk:∀ b,b≠Wg->b≠C->W'.heap[b]?=W.heap[b]?)
    (hwk:Conc.woken P gi g' W' (Yj bl gm)=Yj bl' gm) (hbl:bl'=true->bl=true) (hgrp:GrpOk ty Wg rg pd bl' (fun j=>if j=i then s' else st j) A W') :
    ∃ (ops:Trace) (gs':Array Goroutine),runT P (crowd gs W sl) i=(.next (crowd gs' W' sl),ops)/\Qgz (τ.set i r') τ/\CfgG P Sh ty Wg C N et cs0 Fs Ws pd rg bl' d0 Z orig O gm w vs (fun j=>if j=i then s' else st j) slot ph A (τ.set i r') cs' Q gs' W' (t++ops):=by
  have hlt:=(Eb.1 hi).1;have hlt0:=(Eb.1 h.g0).1;have hb0:(i == 0)=false:=by simp [hi0]
  have hiA:i∈A:=(h.act i).2 ⟨hi0,by rw [hv];rfl⟩;obtain ⟨F,h0,hF⟩:=h.main;have hs0:=(h.pg.seen 0 _ h0).2;have hrun:=runT_crowd_go (P:=P) (sl:=sl) (i:=i) hi (by rw [hb0];exact hstep);rw [h.woken hwk] at hrun;have hsz:((gs.setIfInBounds 0 (Yj bl' gm)).setIfInBounds i g').size=gs.size:=by simp
  have hself:((gs.setIfInBounds 0 (Yj bl' gm)).setIfInBounds i g')[i]?=some g':=by simp [hlt]
  have hset:∀ j,j≠0->j≠i->((gs.setIfInBounds 0 (Yj bl' gm)).setIfInBounds i g')[j]?=gs[j]?:=fun j hj hji=>by
    grind
  have hτlt:i < τ.length:=by grind
  have hg:=Qiu (i:=i) (fn:=gi.frame.fn) (pos:=gi.frame.place) (es:=es);have hslot:∀ j,j∈A->j≠i->slot j≠slot i:=fun j hj hji e=>hji (QBk h.sln hj hiA e)
  refine ⟨_,_,hrun,⟨i,_,_,hτ,hsub,rfl⟩,?_⟩;refine ⟨by simp_all,⟨F,h0,hF⟩,by simp only [if_neg (Ne.symm hi0)];exact h.m0,by rw [Deaf_other t hi0 _ hg];exact h.dm,?_,h.run,fun hb=>h.off (hbl hb),by simp [h.len],h.nod,h.act,h.posts,h.sln,h.slN,fun j gj hj hgj=>?_,h.q,h.q0,hrow,hcs,fun k hk=>?_,fun b hb=>?_,h.bas,by rw [hW.2.2.2];exact h.size,fun b hb hn=>?_,
    ⟨hW.1.trans h.same.1,hW.2.1.trans h.same.2.1,hW.2.2.1.trans h.same.2.2⟩,h.wgs,h.cF,hgrp⟩
  · simp_all
  · by_cases hji:j=i
    · simp_all [Deaf_own,if_pos,List.getElem?_set_self]
    · rw [hset j hj hji] at hgj;simp only [if_neg hji];obtain ⟨r2,h1,h2⟩:=h.oth j gj hj hgj;refine ⟨r2,by grind,?_⟩;rw [Deaf_other t (Ne.symm hji) _ hg];cases hvj:vs j with
      | none=>rw [hvj] at h2;exact h2
      | some y =>
        rw [hvj] at h2;exact h2.cells (hcs2 _ (hslot j ((h.act j).2 ⟨hj,by grind⟩) hji))
  · rw [hcs2 k (fun e=>hk i hiA e.symm)];exact h.rold k hk
  · have hbF:F b:=hs0.agr.zf b hb;rw [hblk b (fun e=>hs0.out b (.inl e) hbF) (fun e=>hs0.out b (.inr e) hbF)];exact h.orig b hb
  · have:=h.wgs;rw [hblk b (by omega) (fun e=>hn (e▸h.cF))];exact h.keep b hb hn
end
end Go.Gw

end
section
set_option linter.unusedVariables false
namespace Go.Gw
open Go Go.Conc
open Go.ConcR (KK wgBlock WgAt stA smA rd wr mk)
section
variable {P:Program} {Sh:Loc->Prop} {ty:TypeId} {Wg C N:Nat} {et:TypeId} {cs0:Array Value} {Fs:Nat->Prop} {Ws:World} {pd:Nat} {rg:Rg} {bl:Bool} {d0:Nat} {Z:Nat->Prop} {orig:Nat->Option Obj}
variable {O:List (Nat×(Value->World->Prop))} {gm:Goroutine} {w:World} {vs:Nat->Option View} {st st':Nat->Ph} {slot:Nat->Nat} {ph:Nat->Value->World->Prop} {A:List Nat} {τ:List Tr} {cs:Array Value} {Q:Nat->Addr->Prop}
variable {gs:Array Goroutine} {W W':World} {t:Trace} {lim:Nat->Lv} {n:Nat}

theorem Qnd:∀ {N:Nat} {l:List Nat},l.Nodup->(∀ x∈l,x < N)->l.length<=N
  | 0,l,_,h=>by
    cases l with
    | nil=>exact En _
    | cons x l=>exact absurd (h x (by simp)) (Nat.not_lt_zero _)
  | N+1,l,hn,h=>by
    by_cases hm:N∈l
    · have h1 := Qnd (N := N) (hn.erase N) fun x hx => by
        have:=hn.mem_erase_iff.1 hx;have:=h x this.2;omega
      rw [List.length_erase_of_mem hm] at h1;omega
    · have := Qnd (N := N) hn fun x hx => by
        have:=h x hx;have:x≠N:=fun e=>hm (e▸hx)
        omega
      omega
theorem Qxw:∀ {A:List Nat},A.Nodup->∀ {i:Nat},i∈A->∀ {p p':Nat->Bool},p i=true->p' i=false->(∀ j,j≠i->p' j=p j)->A.countP p'+1=A.countP p
 | [],_,_,hi,_,_,_,_,_=>by cases hi
 | a::A,hn,i,hi,p,p',h1,h2,h3=>by
  rw [Em] at hn;rcases El.1 hi with rfl | hi'
  ·grind [Ei]
  ·have hne:a≠i:=fun e=>hn.1 (e▸hi')
   have:=Qxw hn.2 hi' h1 h2 h3
   grind
theorem GrpOk.live (h:GrpOk ty Wg rg pd bl st A W):Live ty Wg W:=by
 cases rg with
 | un=>exact ⟨_,_,h.1⟩
 | reg =>
  rcases h.2 with ⟨_,h1,_⟩ | ⟨_,i,_,h1,_⟩ | ⟨_,_,h1,_⟩
  ·exact ⟨_,_,h1⟩
  ·rcases h1 with ⟨_,h1⟩ | ⟨_,h1⟩<;>exact ⟨_,_,h1⟩
  ·exact ⟨_,_,h1⟩
 | fin=>exact ⟨_,_,h.2.2.1⟩
 | acq=>exact ⟨_,_,h.2.1⟩
theorem GrpOk.flags {bl':Bool} (h:GrpOk ty Wg rg pd bl st A W) (hp:∀ j,(st' j).pre=(st j).pre) (hl:∀ j,(st' j).late=(st j).late) (hs:∀ j,(st j).late=true\/st j=.gone->st' j=st j) (hb:bl'=true->bl=true) (hw:W'.heap[Wg]?=W.heap[Wg]?):GrpOk ty Wg rg pd bl' st' A W':=by
 have e:(fun i=>(st' i).pre)=fun i=>(st i).pre:=funext hp
 have hww:∀ {a b},WgAt ty Wg W a b->WgAt ty Wg W' a b:=fun h=>hw.trans h
 have hbf:bl=false->bl'=false:=fun h0=>by
  simp_all
 cases rg with
 | un =>
  obtain ⟨h1,h2,h3⟩:=h;exact ⟨by simp_all,fun i hi=>(hl i).trans (h2 i hi),hbf h3⟩
 | reg =>
  obtain ⟨h0,h⟩:=h;refine ⟨h0,?_⟩;rw [e];rcases h with ⟨h1,h2,h3⟩ | ⟨h1,i,h2,h3,h4⟩ | ⟨h1,h2,h3,h4⟩
  ·simp_all
  ·refine .inr (.inl ⟨h1,i,h2,?_,fun j hj hji=>(hl j).trans (h4 j hj hji)⟩);rcases h3 with ⟨h5 | h5,h6⟩ | ⟨h5,h6⟩
   ·exact .inl ⟨.inl (by rw [hs i (.inl (by rw [h5];rfl))];exact h5),hww h6⟩
   ·exact .inl ⟨.inr (by rw [hs i (.inl (by rw [h5];rfl))];exact h5),hww h6⟩
   ·exact .inr ⟨by rw [hs i (.inl (by rw [h5];rfl))];exact h5,hww h6⟩
  simp_all
 | fin =>
  obtain ⟨h1,h2,h3,h4,h5⟩:=h;exact ⟨h1,by simp_all,hww h3,hbf h4,fun i hi=>(hl i).trans (h5 i hi)⟩
 | acq =>
  obtain ⟨h1,h2,h3,h4⟩:=h;exact ⟨h1,hww h2,hbf h3,fun i hi=>(hs i (.inr (h4 i hi))).trans (h4 i hi)⟩

theorem QBp {i:Nat} {fn:FuncId} {pos:String} {e:Event}:MemOp.ofEvents i fn pos #[e]=#[{ g:=i,fn:=fn,pos:=pos,act:=.ofEvent e }]:=by rw [ofEvents_eq];simp
theorem PG.one (h:PG Sh (stA Wg) C Q lim vs n W t) {i:Nat} (hin:i < n) {fn:FuncId} {pos:String} {e:Event} (hy:PushOk (stA Wg) C Q lim t { g:=i,fn:=fn,pos:=pos,act:=.ofEvent e }) (hl:(MemAct.ofEvent e).low W.heap.size) (hr:MemAct.ofEvent e≠.mark (.release (stA Wg))) :
  PG Sh (stA Wg) C Q lim vs n W (t++MemOp.ofEvents i fn pos #[e]):=by
 have e1:MemOp.ofEvents i fn pos #[e]=#[{ g:=i,fn:=fn,pos:=pos,act:=.ofEvent e }]:=by rw [ofEvents_eq];simp
 rw [e1];exact h.push hy hin hl hr
theorem PG.mark (h:PG Sh (stA Wg) C Q lim vs n W t) {i:Nat} (hin:i < n) {fn:FuncId} {pos:String} {m:Mark} (hm:(MemAct.mark m).touch?=none) (hl:(MemAct.mark m).low W.heap.size) (hr:m≠.release (stA Wg)):PG Sh (stA Wg) C Q lim vs n W (t++MemOp.ofEvents i fn pos #[Go.ConcR.mk m]) :=
 h.one hin (.calm (by trivial)) (by trivial) (by grind [Go.ConcR.mk,MemAct.ofEvent])
theorem PG.atom1 (h:PG Sh (stA Wg) C Q lim vs n W t) {i:Nat} (hin:i < n) (hd:0 < Deaf t i) {fn:FuncId} {pos:String} {a:Addr} (ha:a.block=Wg) (b:Bool):PG Sh (stA Wg) C Q lim vs n W (t++MemOp.ofEvents i fn pos #[⟨.cell a,b,true⟩]) :=
 h.one hin (.atom a b (by rfl) ha hd) (by
  have:=h.gl;cases b<;>(simp only [MemAct.ofEvent,MemAct.low,Loc.low];rw [ha];exact this)) (by grind [MemAct.ofEvent])
theorem QBq {i:Nat} {fn:FuncId} {pos:String} (e:Event) (l:List Event):MemOp.ofEvents i fn pos (e::l).toArray=MemOp.ofEvents i fn pos #[e]++MemOp.ofEvents i fn pos l.toArray:=by
 grind [Array.toList_inj,ofEvents_eq]
theorem PG.atom2 (h:PG Sh (stA Wg) C Q lim vs n W t) {i:Nat} (hin:i < n) (hd:0 < Deaf t i) {fn:FuncId} {pos:String} {a:Addr} (ha:a.block=Wg):PG Sh (stA Wg) C Q lim vs n W (t++MemOp.ofEvents i fn pos #[rd a,wr a]):=by
 have h1:=h.atom1 (fn:=fn) (pos:=pos) hin hd ha false;have h2:=h1.atom1 (fn:=fn) (pos:=pos) (i:=i) hin (by rw [Deaf_own];exact hd) ha true
 grind [rd,wr,Array,Event,QBq,Ef]
theorem PG.sem (h:PG Sh (stA Wg) C Q lim vs n W t) {i:Nat} (hin:i < n) {fn:FuncId} {pos:String} {a:Addr} (ha:a.block=Wg):PG Sh (stA Wg) C Q lim vs n W (t++MemOp.ofEvents i fn pos (semEvents a)):=by
 have h1:=h.mark (fn:=fn) (pos:=pos) (i:=i) (m:=.disable) hin rfl trivial (by simp);have h2:=h1.atom1 (fn:=fn) (pos:=pos) (i:=i) hin (by rw [Deaf_own];simp [deafBehind,Go.ConcR.mk]) ha false;have h3:=h2.atom1 (fn:=fn) (pos:=pos) (i:=i) hin (by grind [deafBehind,Go.ConcR.mk,Deaf_own]) ha true;have h4:=h3.mark (fn:=fn) (pos:=pos) (i:=i) (m:=.enable) hin rfl trivial (by simp)
 grind [semEvents,Go.ConcR.mk,rd,wr,QBq,Ef]
theorem Qdx (d:Nat) {es:Array Event} (h:es=#[rd (stA Wg)]\/es=#[wr (stA Wg)]\/es=#[rd (stA Wg),wr (stA Wg)]):deafBehind d es=d:=by
 grind [deafBehind,rd,wr]
theorem Qxx (d:Nat) (a:Addr):deafBehind d (semEvents a)=d:=by rfl

theorem Qbp {a:Addr} {v:Value} (b:Nat) (hb:b≠a.block):(W.setCell a v).heap[b]?=W.heap[b]?:=by rw [Qca,if_neg hb]
theorem PG.set (h:PG Sh (stA Wg) C Q lim vs n W t) {a:Addr} (ha:a.block=Wg\/a.block=C) (v:Value):PG Sh (stA Wg) C Q lim vs n (W.setCell a v) t :=
 h.turn rfl rfl rfl rfl Qav fun b h1 h2=>Qbp b (by rcases ha with e | e<;>(rw [e];assumption))
open Classical in
theorem Qcb {i:Nat} {s':Ph} (h:s'.lim=(st i).lim):(fun j=>(if j=i then s' else st j).lim)=fun j=>(st j).lim:=funext fun j=>by
 grind
open Classical in
theorem Qvv {i:Nat} {s':Ph} (h:s'=st i):(fun j=>if j=i then s' else st j)=st:=funext fun j=>by
 simp_all
open Classical in
theorem GrpOk.upd {i:Nat} {s':Ph} {bl':Bool} (h:GrpOk ty Wg rg pd bl st A W) (hp:s'.pre=(st i).pre) (hl:s'.late=false) (hl2:(st i).late=false) (hng:st i≠.gone) (hb:bl'=true->bl=true) (hw:W'.heap[Wg]?=W.heap[Wg]?):GrpOk ty Wg rg pd bl' (fun j=>if j=i then s' else st j) A W' :=
 h.flags (fun j=>by
  grind) (fun j=>by
  grind) (fun j hj=>by
  grind) hb hw
theorem GrpOk.late (h:GrpOk ty Wg rg pd bl st A W) {i:Nat} (hi:i∈A) (hl:(st i).late=true):rg=.reg/\pd=0/\A.countP (fun i=>(st i).pre)=0/\(((st i=.lib .D2\/st i=.lib .D3)/\WgAt ty Wg W 1 0)\/(st i=.lib .D4/\WgAt ty Wg W 0 0))/\∀ j∈A,j≠i->(st j).late=false:=by
 cases rg with
 | un=>have:=h.2.1 i hi;simp_all
 | fin=>have:=h.2.2.2.2 i hi;simp_all
 | acq=>have:=h.2.2.2 i hi;rw [this] at hl;cases hl
 | reg =>
  obtain ⟨h0,h⟩:=h
  grind
theorem QVh {a:Addr} {v:Value} {cs:Array Value} {e:TypeId} (ha:a.spot=none) (h:W.heap[a.block]?=some (.cells cs e (0,0))):(W.setCell a v).heap[a.block]?=some (.cells (cs.setIfInBounds a.off v) e (0,0)):=by
 simp_all [Qca,if_pos]
end
end Go.Gw

end
section
set_option linter.unusedVariables false
namespace Go.Gw
open Go Go.Conc
open Go.ConcR (KK wgBlock WgAt stA smA rd wr mk)
section
variable {P:Program} {Sh:Loc->Prop} {ty:TypeId} {Wg C N:Nat} {et:TypeId} {cs0:Array Value} {Fs:Nat->Prop} {Ws:World} {pd:Nat} {rg:Rg} {bl:Bool} {d0:Nat} {Z:Nat->Prop} {orig:Nat->Option Obj}
variable {O:List (Nat×(Value->World->Prop))} {gm:Goroutine} {w:World} {vs:Nat->Option View} {st st':Nat->Ph} {slot:Nat->Nat} {ph:Nat->Value->World->Prop} {A:List Nat} {τ:List Tr} {cs:Array Value} {Q:Nat->Addr->Prop}
variable {gs:Array Goroutine} {W W':World} {t:Trace} {n:Nat}

def Qpn (P:Program) (Sh:Loc->Prop) (ty:TypeId) (Wg C N:Nat) (et:TypeId) (cs0:Array Value) (Fs:Nat->Prop) (Ws:World) (pd:Nat) (rg:Rg) (bl:Bool) (d0:Nat) (Z:Nat->Prop) (orig:Nat->Option Obj)
  (O:List (Nat×(Value->World->Prop))) (gm:Goroutine) (w:World) (slot:Nat->Nat) (ph:Nat->Value->World->Prop) (A:List Nat) (τ:List Tr) (Q:Nat->Addr->Prop) (gs:Array Goroutine) (W:World) (t:Trace) (i:Nat) (sl:Option (Nat×Nat)):Prop :=
 ∃ (ops:Trace) (gs':Array Goroutine) (W':World) (vs':Nat->Option View) (st':Nat->Ph) (τ':List Tr) (cs':Array Value) (bl':Bool) (w':World),runT P (crowd gs W sl) i=(.next (crowd gs' W' sl),ops)/\Qgz τ' τ/\Rel w w'/\(bl'=true->bl=true) /\
  CfgG P Sh ty Wg C N et cs0 Fs Ws pd rg bl' d0 Z orig O gm w' vs' st' slot ph A τ' cs' Q gs' W' (t++ops)

theorem Qnf (i:Nat) (fn:FuncId) (pos:String):MemOp.ofEvents i fn pos #[]=#[]:=rfl

open Classical in
theorem CfgG.other (h:CfgG P Sh ty Wg C N et cs0 Fs Ws pd rg bl d0 Z orig O gm w vs st slot ph A τ cs Q gs W t) (hN:N+1 < 2147483647) (hpd:pd<=1) {i:Nat} {gi:Goroutine} (hi:gs[i]?=some gi) (hi0:i≠0) (hr:gi.status=.running) (sl:Option (Nat×Nat)) :
    Qpn P Sh ty Wg C N et cs0 Fs Ws pd rg bl d0 Z orig O gm w slot ph A τ Q gs W t i sl:=by
  obtain ⟨r,hτ,hrole⟩:=h.oth i gi hi0 hi;have hlt:=(Eb.1 hi).1;have hlt0:=(Eb.1 h.g0).1;have hb0:(i == 0)=false:=by simp [hi0]
  obtain ⟨F,h0,hF⟩:=h.main;have hs0:=(h.pg.seen 0 _ h0).2;have hin:i < gs.size:=hlt;cases hv:vs i with
  | none =>
    rw [hv] at hrole;obtain ⟨m,rfl,hq⟩:=hrole;cases m with
    | zero=>rw [hq.1] at hr;cases hr
    | succ m =>
      rcases hq with ⟨hf,_⟩ | ⟨_,g',es,hm,hstp,hq'⟩
      · simp_all
      obtain ⟨bl',hwk,hwf,hwt,_⟩:=Qpf (P:=P) (g:=gi) (g':=g') (W':=W) h.run h.off;have hrun:=runT_crowd_go (P:=P) (sl:=sl) (i:=i) hi (by rw [hb0];exact hstp W);rw [h.woken hwk] at hrun;have hg:=Qiu (i:=i) (fn:=gi.frame.fn) (pos:=gi.frame.place) (es:=es);have hself:((gs.setIfInBounds 0 (Yj bl' gm)).setIfInBounds i g')[i]?=some g':=by simp [hlt]
      have hset:∀ j,j≠0->j≠i->((gs.setIfInBounds 0 (Yj bl' gm)).setIfInBounds i g')[j]?=gs[j]?:=fun j hj hji=>by
        grind
      have hτlt:i < τ.length:=by grind
      refine ⟨_,_,W,vs,st,τ.set i (nt m),cs,bl',w,hrun,⟨i,_,_,hτ,Qas m,rfl⟩,Rel.refl w,hwt,?_⟩;refine ⟨by simpa using h.pg.mute hin hm gi.frame.fn gi.frame.place,⟨F,h0,hF⟩,h.m0,by rw [Deaf_other t hi0 _ hg];exact h.dm,?_,h.run,fun hb=>h.off (hwt hb),by simp [h.len],h.nod,h.act,h.posts,h.sln,h.slN,fun j gj hj hgj=>?_,h.q,h.q0,h.row,h.rsz,h.rold,h.orig,h.bas,h.size,h.keep,h.same,h.wgs,h.cF,h.grp.flags (fun _=>rfl) (fun _=>rfl) (fun _ _=>rfl) hwt rfl⟩
      · simp_all
      · by_cases hji:j=i
        · subst hji;rw [hself] at hgj;cases hgj;refine ⟨nt m,by simp_all,?_⟩;rw [hv,Deaf_own];exact ⟨m,rfl,hq'⟩
        · rw [hset j hj hji] at hgj;rw [Eq_ (Ne.symm hji),Deaf_other t (Ne.symm hji) _ hg];exact h.oth j gj hj hgj
  | some x =>
    rw [hv] at hrole;have hiA:i∈A:=(h.act i).2 ⟨hi0,by rw [hv];rfl⟩;have hlive:=h.grp.live;have hWg:Wg≠C:=h.pg.gc
    -- a step at the group
    have atG : ∀ {g' : Goroutine} {W' : World} {es : Array Event} {s' : Ph} {r' : Tr}, stepG P false gi W = .go g' W' es -> PG Sh (stA Wg) C Q (fun j => (if j = i then s' else st j).lim) vs gs.size W' (t ++ MemOp.ofEvents i gi.frame.fn gi.frame.place es) -> Tr.sub r' r ->
        RoleG P ty Wg C (some x) (slot i) (ph i) s' cs (deafBehind (Deaf t i) es) r' g'->(W'.tape=W.tape/\W'.os=W.os/\W'.output=W.output/\W'.heap.size=W.heap.size)->(∀ b,b≠Wg->W'.heap[b]?=W.heap[b]?) ->
        (∀ bl',(bl'=true->bl=true)->(bl=false->bl'=false)->(mayWake P gi=true->(g'.status=.running\/g'.status=.finished)->bl'=false)->GrpOk ty Wg rg pd bl' (fun j=>if j=i then s' else st j) A W')->Qpn P Sh ty Wg C N et cs0 Fs Ws pd rg bl d0 Z orig O gm w slot ph A τ Q gs W t i sl:=by
      intro g' W' es s' r' hstep hpg hsub hro hW hblk hgrp;obtain ⟨bl',hwk,hwf,hwt,hwm⟩:=Qpf (P:=P) (g:=gi) (g':=g') (W':=W') h.run h.off;obtain ⟨ops,gs',h1,h2,h3⟩:=h.lib sl hi hi0 hv hstep hpg hτ hsub hro h.rsz (fun _ _=>rfl) (by rw [hblk C (Ne.symm hWg)];exact h.row) hW (fun b hb _=>hblk b hb) hwk hwt (hgrp bl' hwt hwf hwm);exact ⟨ops,gs',W',vs,_,_,cs,bl',w,h1,h2,Rel.refl w,hwt,h3⟩
    cases hst:st i with
    | priv =>
      rw [hst] at hrole;obtain ⟨hd,hw⟩:=hrole;have hli:(st i).lim=.no:=by rw [hst];rfl
      cases r with
      | leaf=>exact hw.elim
      | mk f =>
        rcases hw.2 x.w (Rel.refl _) with ⟨m,hk,hfk⟩ | ⟨g',w',hvs,hw'⟩
        · -- the store
          obtain ⟨_,g',v,hstp,hl,hφ⟩:=hk;have hks:slot i < cs.size:=by rw [h.rsz];exact h.slN i hiA
          have hstep:=hstp W cs et h.row hks;obtain ⟨bl',hwk,hwf,hwt,hwm⟩:=Qpf (P:=P) (g:=gi) (g':=g') (W':=W.setCell ⟨C,slot i,none⟩ v) h.run h.off;have hpg:PG Sh (stA Wg) C Q (fun j=>(if j=i then Ph.lib .A else st j).lim) vs gs.size (W.setCell ⟨C,slot i,none⟩ v) (t++MemOp.ofEvents i gi.frame.fn gi.frame.place #[⟨.cell ⟨C,slot i,none⟩,true,false⟩]):=by
            rw [Qcb (by rw [hst];rfl)];exact (h.pg.one (e:=⟨.cell ⟨C,slot i,none⟩,true,false⟩) hin (.pay ⟨C,slot i,none⟩ true rfl rfl (h.q i hiA) hli) h.pg.cl (by simp [MemAct.ofEvent])).set (.inr rfl) v
          have hrow:=QVh (W:=W) (a:=⟨C,slot i,none⟩) (v:=v) rfl h.row;obtain ⟨ops,gs',h1,h2,h3⟩:=h.lib (s':=.lib .A) (r':=nt m) (cs':=cs.setIfInBounds (slot i) v) (bl':=bl') sl hi hi0 hv hstep hpg hτ ⟨f,x.w,rfl,hfk.symm⟩
            ⟨⟨m,rfl,hl,by rw [hd];rfl⟩,v,by simp [hks],hφ⟩ (by simp [h.rsz]) (fun k hk=>Ed (Ne.symm hk)) hrow ⟨rfl,rfl,rfl,Qav⟩ (fun b _ hb=>Qbp b hb) hwk hwt
            (h.grp.upd (by rw [hst];rfl) rfl (by rw [hst];rfl) (by grind) hwt (Qbp Wg hWg))
          exact ⟨ops,gs',_,vs,_,_,_,bl',w,h1,h2,Rel.refl w,hwt,h3⟩
        · -- a step of its own
          obtain ⟨_,hsx⟩:=h.pg.seen i x hv;obtain ⟨hnv,hstep⟩:=hvs hsx.nov;obtain ⟨F',W',es,hgo,hat,hes⟩:=hstep x.F W hsx.agr;have hap:=h.pg.apart 0 i _ x (Ne.symm hi0) h0 hv;have hWk:∀ b,(b=Wg\/b=C)->W'.heap[b]?=W.heap[b]?:=fun b hb=>hat.keep b (by rcases hb with rfl | rfl;exact h.pg.gl;exact h.pg.cl) (.inl (hsx.out b hb))
          obtain ⟨bl',hwk,hwf,hwt,hwm⟩:=Qpf (P:=P) (g:=gi) (g':=g') (W':=W') h.run h.off;have hrun:=runT_crowd_go (P:=P) (sl:=sl) (i:=i) hi (by rw [hb0];exact hgo);rw [h.woken hwk] at hrun;have hpi:=h.pg.step hv hli hat hnv hes gi.frame.fn gi.frame.place;have hg:=Qiu (i:=i) (fn:=gi.frame.fn) (pos:=gi.frame.place) (es:=es);have hself:((gs.setIfInBounds 0 (Yj bl' gm)).setIfInBounds i g')[i]?=some g':=by simp [hlt]
          have hset:∀ j,j≠0->j≠i->((gs.setIfInBounds 0 (Yj bl' gm)).setIfInBounds i g')[j]?=gs[j]?:=fun j hj hji=>by
            grind
          have hτlt:i < τ.length:=by grind
          refine ⟨_,_,W',Qbm vs i (some ⟨fun b=>F' b/\b < W'.heap.size,x.Z,w'⟩) W',st,τ.set i (f x.w),cs,bl',(Qaa W' ⟨F,Z,w⟩).w,hrun,⟨i,_,_,hτ,⟨f,x.w,rfl,rfl⟩,rfl⟩,Qfm (x:=⟨F,Z,w⟩),hwt,?_⟩;refine ⟨by grind,⟨F,by rw [JK (Ne.symm hi0),h0];rfl,hF⟩,h.m0,by rw [Deaf_other t hi0 _ hg];exact h.dm,?_,h.run,fun hb=>h.off (hwt hb),by simp [h.len],h.nod,fun j=>?_,h.posts,h.sln,h.slN,fun j gj hj hgj=>?_,h.q,h.q0,by rw [hWk C (.inr rfl)];exact h.row,h.rsz,h.rold,fun b hb=>?_,fun j y hy b hb=>?_,Eh h.size hat.size,fun b hb hn=>?_,
            ⟨hat.same.1.trans h.same.1,hat.same.2.1.trans h.same.2.1,hat.same.2.2.trans h.same.2.2⟩,h.wgs,h.cF,h.grp.flags (fun _=>rfl) (fun _=>rfl) (fun _ _=>rfl) hwt (hWk Wg (.inl rfl))⟩
          · simp_all
          · rw [h.act j]
            grind [JK,Qac]
          · by_cases hji:j=i
            · subst hji;rw [hself] at hgj;cases hgj;refine ⟨f x.w,by simp_all,?_⟩;rw [Qac,hst,Deaf_own,deafBehind_still (fun e he=>Qfj (hes e he))];trivial
            · rw [hset j hj hji] at hgj;rw [Eq_ (Ne.symm hji),Deaf_other t (Ne.symm hji) _ hg,JK hji];obtain ⟨r2,h1,h2⟩:=h.oth j gj hj hgj;exact ⟨r2,h1,h2.grown _ fun y=>⟨rfl,Qfm⟩⟩
          · have hFb:F b:=hs0.agr.zf b hb;rw [hat.keep b (hs0.bnd b hFb) (by
              rcases Classical.em (x.F b) with hxb | hxb
              · exact .inr (hap b hFb hxb).2
              simp_all)]
            exact h.orig b hb
          · by_cases hji:j=i
            · subst hji;rw [Qac] at hy;cases hy;rcases hat.new b hb.1 with h1 | h1
              · exact h.bas j x hv b h1
              · exact .inr (Eh h.size h1.1)
            · rw [JK hji] at hy;obtain ⟨y0,hy0,rfl⟩:=Ea.1 hy;exact h.bas j y0 hy0 b hb
          · rw [hat.keep b (Ec hb h.size) (.inl fun hxb => by
              rcases h.bas i x hv b hxb with h1 | h1
              · exact hn h1
              · omega)]
            exact h.keep b hb hn
    | quit =>
      rw [hst] at hrole;obtain ⟨⟨m,rfl,hq⟩,hwr⟩:=hrole;cases m with
      | zero=>rw [hq.1] at hr;cases hr
      | succ m =>
        rcases hq with ⟨hf,_⟩ | ⟨_,g',es,hm,hstp,hq'⟩
        · simp_all
        refine atG (s':=.quit) (r':=nt m) (hstp W) (by rw [Qcb (by rw [hst])];exact h.pg.mute hin hm _ _) (Qas m) ⟨⟨m,rfl,hq'⟩,hwr⟩ ⟨rfl,rfl,rfl,rfl⟩ (fun _ _=>rfl) fun bl' hb _ _=>?_;rw [Qvv (i:=i) (s':=.quit) hst.symm];exact h.grp.flags (fun _=>rfl) (fun _=>rfl) (fun _ _=>rfl) hb rfl
    | gone =>
      rw [hst] at hrole;obtain ⟨⟨m,rfl,hq⟩,hwr⟩:=hrole;cases m with
      | zero=>rw [hq.1] at hr;cases hr
      | succ m =>
        rcases hq with ⟨hf,_⟩ | ⟨_,g',es,hm,hstp,hq'⟩
        · simp_all
        refine atG (s':=.gone) (r':=nt m) (hstp W) (by rw [Qcb (by rw [hst])];exact h.pg.mute hin hm _ _) (Qas m) ⟨⟨m,rfl,hq'⟩,hwr⟩ ⟨rfl,rfl,rfl,rfl⟩ (fun _ _=>rfl) fun bl' hb _ _=>?_;rw [Qvv (i:=i) (s':=.gone) hst.symm];exact h.grp.flags (fun _=>rfl) (fun _=>rfl) (fun _ _=>rfl) hb rfl
    | lib s =>
      rw [hst] at hrole;obtain ⟨⟨m,rfl,hl,hd⟩,hwr⟩:=hrole;cases m with
      | zero=>exact hl.elim
      | succ m =>
        obtain ⟨_,hl⟩:=hl;rcases hl with hl | hl
        · -- nothing is touched
          obtain ⟨g',hstp,hl'⟩:=hl W hlive;refine atG (s':=.lib s) (r':=nt m) hstp (by rw [Qcb (by rw [hst]),Qnf,Es];exact h.pg) (Qas m) ⟨⟨m,rfl,hl',hd⟩,hwr⟩ ⟨rfl,rfl,rfl,rfl⟩ (fun _ _=>rfl) fun bl' hb _ _=>?_;rw [Qvv (i:=i) (s':=.lib s) hst.symm];exact h.grp.flags (fun _=>rfl) (fun _=>rfl) (fun _ _=>rfl) hb rfl
        cases s with
        | A =>
          obtain ⟨g',hstp,hl'⟩:=hl;refine atG (s':=.lib .B) (r':=nt m) (hstp W hlive) ?_ (Qas m) ⟨⟨m,rfl,hl',hd⟩,hwr⟩ ⟨rfl,rfl,rfl,rfl⟩ (fun _ _=>rfl) fun bl' hb _ _=>h.grp.upd (by rw [hst];rfl) rfl (by rw [hst];rfl) (by grind) hb rfl;have:=h.pg.rel (i:=i) hin hd (by rw [hst];rfl) gi.frame.fn gi.frame.place;have e:(fun j=>(if j=i then Ph.lib .B else st j).lim)=fun j=>if j=i then .rel else (st j).lim:=funext fun j=>by
            grind [Ph.lim]
          rw [e,QBp];exact this
        | B =>
          obtain ⟨g',hstp,hl'⟩:=hl;refine atG (s':=.lib .C) (r':=nt m) (hstp W hlive) ?_ (Qas m) ⟨⟨m,rfl,hl',by rw [hd];rfl⟩,hwr⟩ ⟨rfl,rfl,rfl,rfl⟩ (fun _ _=>rfl) fun bl' hb _ _=>h.grp.upd (by rw [hst];rfl) rfl (by rw [hst];rfl) (by grind) hb rfl;rw [Qcb (by rw [hst];rfl)];exact h.pg.mark hin rfl trivial (by simp)
        | C =>
          have hpre:(st i).pre=true:=by rw [hst];rfl
          have hpos:0 < A.countP (fun i=>(st i).pre):=List.countP_pos_iff.2 ⟨i,hiA,hpre⟩;have hle:A.countP (fun i=>(st i).pre)<=N:=by
            refine Eh Ep ?_;have:=Qnd h.sln (fun x hx=>by obtain ⟨j,hj,rfl⟩:=Et.1 hx;exact h.slN j hj);simp_all
          have hdec:∀ s':Ph,s'.pre=false->A.countP (fun j=>((if j=i then s' else st j):Ph).pre)+1=A.countP (fun j=>(st j).pre):=fun s' hs' =>
            Qxw h.nod hiA hpre (by simp [hs']) (fun j hj=>by simp [hj])
          have hdd:0 < Deaf t i:=by rw [hd];trivial
          have go : ∀ v wt : Nat, wt <= 1 -> v + 1 <= A.countP (fun i => (st i).pre) + pd -> WgAt ty Wg W (((v + 1 : Nat) : Int) * KK + (wt : Int)) 0 ->
              (∀ s' bl',s'=Ph.lib .D2/\(v=0/\wt=1)\/s'=Ph.quit/\¬ (v=0/\wt=1)->(bl'=true->bl=true)->(bl=false->bl'=false)->∀ W',WgAt ty Wg W' ((v:Int) * KK+(wt:Int)) 0->GrpOk ty Wg rg pd bl' (fun j=>if j=i then s' else st j) A W') ->
              Qpn P Sh ty Wg C N et cs0 Fs Ws pd rg bl d0 Z orig O gm w slot ph A τ Q gs W t i sl:=by
            intro v wt hwt hv1 hwg hgo;obtain ⟨g',hstp,hA,hB⟩:=hl v wt hwt (by omega);have hnew:=hwg.setSt ((v:Int) * KK+(wt:Int));have hpg:∀ s':Ph,s'.lim=.rel->PG Sh (stA Wg) C Q (fun j=>(if j=i then s' else st j).lim) vs gs.size (W.setCell (stA Wg) (.int .u64 ((v:Int) * KK+(wt:Int)))) (t++MemOp.ofEvents i gi.frame.fn gi.frame.place #[rd (stA Wg),wr (stA Wg)]):=fun s' hs'=>by
              rw [Qcb (by rw [hst,hs'];rfl)];exact (h.pg.atom2 hin hdd rfl).set (.inl rfl) _
            by_cases hc:v=0/\wt=1
            · exact atG (s':=.lib .D2) (r':=nt m) (hstp W hwg) (hpg _ rfl) (Qas m) ⟨⟨m,rfl,hA hc,by trivial⟩,hwr⟩ ⟨rfl,rfl,rfl,Qav⟩ (fun b hb=>Qbp b hb) fun bl' hb hf _=>hgo _ bl' (.inl ⟨rfl,hc⟩) hb hf _ hnew
            · exact atG (s':=.quit) (r':=nt m) (hstp W hwg) (hpg _ rfl) (Qas m) ⟨⟨m,rfl,by rw [Qdx _ (.inr (.inr rfl)),hd];exact hB hc⟩,hwr⟩ ⟨rfl,rfl,rfl,Qav⟩ (fun b hb=>Qbp b hb) fun bl' hb hf _=>hgo _ bl' (.inr ⟨rfl,hc⟩) hb hf _ hnew
          have hnl:∀ j∈A,(st j).late=false->∀ s':Ph,s'.late=false->((if j=i then s' else st j):Ph).late=false:=fun j _ hj s' hs'=>by
            grind
          cases rg with
          | un =>
            obtain ⟨k1,k2,k3⟩:=h.grp;refine go (A.countP (fun i=>(st i).pre)+pd - 1) 0 (by omega) (by omega) (by
              grind) fun s' bl' hs' hb hf W' hW'=>?_
            rcases hs' with ⟨_,h1,h2⟩ | ⟨rfl,_⟩
            · cases h2
            · have e:=hdec .quit rfl;refine ⟨?_,fun j hj=>hnl j hj (k2 j hj) _ rfl,hf k3⟩;have e2:A.countP (fun i=>(st i).pre)+pd - 1=A.countP (fun j=>((if j=i then Ph.quit else st j):Ph).pre)+pd:=by omega
              simp_all
          | fin=>have:=h.grp.2.1;omega
          | acq=>have:=h.grp.2.2.2 i hiA;simp_all
          | reg =>
            obtain ⟨k0,hh⟩:=h.grp;rcases hh with ⟨k1,k2,k3⟩ | ⟨k1,_⟩ | ⟨k1,_⟩
            · refine go (A.countP (fun i => (st i).pre) - 1) 1 (En _) (by omega) (by
                simp_all) fun s' bl' hs' hb hf W' hW'=>?_
              rcases hs' with ⟨rfl,h1,_⟩ | ⟨rfl,h1⟩
              · have e:=hdec (.lib .D2) rfl;refine ⟨k0,.inr (.inl ⟨by grind,i,hiA,.inl ⟨.inl (by simp),?_⟩,fun j hj hji=>by simp_all⟩)⟩;simp_all
              · have e:=hdec .quit rfl;have hne:A.countP (fun i=>(st i).pre) - 1≠0:=fun e=>h1 ⟨e,rfl⟩
                refine ⟨k0,.inl ⟨by grind,?_,fun j hj=>hnl j hj (k3 j hj) _ rfl⟩⟩
                grind
            · omega
            · omega
        | D2 =>
          obtain ⟨g',hstp,hl'⟩:=hl;obtain ⟨rfl,k0,k1,k2,k3⟩:=h.grp.late hiA (by rw [hst];rfl);have hwg:WgAt ty Wg W 1 0:=by
            simp_all
          refine atG (s':=.lib .D3) (r':=nt m) (hstp W hwg) (by rw [Qcb (by rw [hst];rfl)];exact h.pg.atom1 hin (by rw [hd];trivial) rfl false) (Qas m) ⟨⟨m,rfl,hl',by trivial⟩,hwr⟩ ⟨rfl,rfl,rfl,rfl⟩ (fun _ _=>rfl) fun bl' hb _ _=>?_;refine ⟨k0,.inr (.inl ⟨?_,i,hiA,.inl ⟨.inr (by simp),hwg⟩,fun j hj hji=>by simp_all⟩)⟩
          grind [Ei,Ph.pre]
        | D3 =>
          obtain ⟨g',hstp,hl'⟩:=hl;obtain ⟨rfl,k0,k1,k2,k3⟩:=h.grp.late hiA (by rw [hst];rfl);have hwg:WgAt ty Wg W 1 0:=by
            simp_all
          refine atG (s':=.lib .D4) (r':=nt m) (hstp W hwg) (by rw [Qcb (by rw [hst];rfl)];exact (h.pg.atom1 hin (by rw [hd];trivial) rfl true).set (.inl rfl) _) (Qas m) ⟨⟨m,rfl,hl',by trivial⟩,hwr⟩ ⟨rfl,rfl,rfl,Qav⟩ (fun b hb=>Qbp b hb) fun bl' hb _ _=>?_;refine ⟨k0,.inr (.inl ⟨?_,i,hiA,.inr ⟨by simp,hwg.setSt 0⟩,fun j hj hji=>by simp_all⟩)⟩
          grind [Ei,Ph.pre]
        | D4 =>
          obtain ⟨hmw,g',hstp,hq'⟩:=hl;obtain ⟨rfl,k0,k1,k2,k3⟩:=h.grp.late hiA (by rw [hst];rfl);have hwg:WgAt ty Wg W 0 0:=by
            simp_all
          refine atG (s':=.quit) (r':=nt m) (hstp W hwg) (by rw [Qcb (by rw [hst];rfl)];exact (h.pg.sem hin rfl).set (.inl rfl) _) (Qas m) ⟨⟨m,rfl,by rw [Qxx,hd];exact hq'⟩,hwr⟩ ⟨rfl,rfl,rfl,Qav⟩ (fun b hb=>Qbp b hb) fun bl' hb _ hm=>?_;refine ⟨k0,.inr (.inr ⟨?_,hm hmw hq'.status,hwg.setSm 1,fun j hj=>?_⟩)⟩
          · grind [Ei,Ph.pre]
          grind [Ph.late]
end
end Go.Gw

end
section
set_option linter.unusedVariables false
namespace Go.Gw
open Go Go.Conc
open Go.ConcR (KK wgBlock WgAt stA smA rd wr mk)

inductive AS where
 | K | P1 | P2 | E
inductive BS where
 | K | L | Cs (v:Nat) | R | X | S | F | E | Q | Z
def AS.pd:AS->Nat
 | .K | .P1=>0
 | _=>1
def AS.deaf:AS->Nat
 | .P1 | .P2=>1
 | _=>0
section
variable (P:Program) (ty:TypeId) (Wg:Nat)
def MA (gE:Goroutine):Nat->AS->Goroutine->Prop
 | 0,s,g=>s=.E/\g=gE
 | m+1,s,g=>(s=.E/\g=gE)\/(g.status=.running /\
  ((∀ W,Live ty Wg W->∃ g',stepG P true g W=.go g' W #[]/\MA gE m s g') \/
   match s with
   | .K=>∃ g',(∀ W,Live ty Wg W->stepG P true g W=.go g' W #[ConcR.mk .disable])/\MA gE m .P1 g'
   | .P1=>∀ v:Nat,v < 2147483647->∃ g',(∀ W,WgAt ty Wg W ((v:Int) * KK) 0->stepG P true g W=.go g' (W.setCell (stA Wg) (.int .u64 (((v+1:Nat):Int) * KK))) #[rd (stA Wg),wr (stA Wg)])/\MA gE m .P2 g'
   | .P2=>(∃ g',(∀ W,Live ty Wg W->stepG P true g W=.go g' W #[ConcR.mk (.read (smA Wg))])/\MA gE m .P2 g')\/∃ g',(∀ W,Live ty Wg W->stepG P true g W=.go g' W #[ConcR.mk .enable])/\MA gE m .E g'
   | .E=>False))
def MW (An:Goroutine->Prop) (gE:Goroutine):Nat->BS->Goroutine->Prop
  | 0,s,g=>(s=.Z/\g=gE)\/(s=.R/\An g)
  | m+1,s,g=>((s=.Z/\g=gE)\/(s=.R/\An g))\/(g.status=.running /\
    ((∀ W,Live ty Wg W->∃ g',stepG P true g W=.go g' W #[]/\MW An gE m s g') \/
      match s with
      | .K=>∃ g',(∀ W,Live ty Wg W->stepG P true g W=.go g' W #[ConcR.mk .disable])/\MW An gE m .R g'
      | .L=>∀ v:Nat,v < 2147483648->∃ g',(∀ W,WgAt ty Wg W ((v:Int) * KK) 0->stepG P true g W=.go g' W #[rd (stA Wg)])/\(v=0->MW An gE m .E g')/\(v≠0->MW An gE m (.Cs v) g')
      | .Cs v => (∃ g', (∀ W, WgAt ty Wg W ((v : Int) * KK) 0 -> stepG P true g W = .go g' (W.setCell (stA Wg) (.int .u64 ((v : Int) * KK + 1))) #[rd (stA Wg), wr (stA Wg)]) /\ MW An gE m .X g') /\
          ∀ u:Nat,u≠v->u < 2147483648->∃ g',(∀ W,WgAt ty Wg W ((u:Int) * KK) 0->stepG P true g W=.go g' W #[rd (stA Wg)])/\MW An gE m .R g'
      | .R=>False
      | .X=>∃ g',(∀ W,Live ty Wg W->stepG P true g W=.go g' W #[ConcR.mk (.write (smA Wg))])/\MW An gE m .S g'
      | .S=>g.offers=none/\(∀ W st,WgAt ty Wg W st 0->stepG P true g W=.go { g with status:=.blocked } W #[])/\∃ g',(∀ W,WgAt ty Wg W 0 1->stepG P true g W=.go g' (W.setCell (smA Wg) (.int .u32 0)) (semEvents (smA Wg)))/\MW An gE m .F g'
      | .F=>∃ g',(∀ W,WgAt ty Wg W 0 0->stepG P true g W=.go g' W #[rd (stA Wg)])/\MW An gE m .E g'
      | .E=>∃ g',(∀ W,Live ty Wg W->stepG P true g W=.go g' W #[ConcR.mk .enable])/\MW An gE m .Q g'
      | .Q=>∃ g',(∀ W,Live ty Wg W->stepG P true g W=.go g' W #[ConcR.mk (.acquire (stA Wg))])/\MW An gE m .Z g'
      | .Z=>False))
end

section
variable {P:Program} {Sh:Loc->Prop} {ty:TypeId} {Wg C N:Nat} {et:TypeId} {cs0:Array Value} {Fs:Nat->Prop} {Ws:World} {pd:Nat} {rg:Rg} {bl:Bool} {d0:Nat} {Z:Nat->Prop} {orig:Nat->Option Obj}
variable {O:List (Nat×(Value->World->Prop))} {gm:Goroutine} {w:World} {vs:Nat->Option View} {st st':Nat->Ph} {slot:Nat->Nat} {ph:Nat->Value->World->Prop} {A:List Nat} {τ:List Tr} {cs:Array Value} {Q:Nat->Addr->Prop}
variable {gs:Array Goroutine} {W W':World} {t:Trace} {n:Nat}

theorem CfgG.mlib (h:CfgG P Sh ty Wg C N et cs0 Fs Ws pd rg false d0 Z orig O gm w vs st slot ph A τ cs Q gs W t) {g':Goroutine} {es:Array Event} {pd':Nat} {rg':Rg} {bl':Bool} (sl:Option (Nat×Nat)) (hstep:stepG P true gm W=.go (Yj bl' g') W' es) (hr':g'.status=.running) (ho':bl'=true->g'.offers=none)
    (hpg:PG Sh (stA Wg) C Q (fun j=>(st j).lim) vs gs.size W' (t++MemOp.ofEvents 0 gm.frame.fn gm.frame.place es)) (hW:W'.tape=W.tape/\W'.os=W.os/\W'.output=W.output/\W'.heap.size=W.heap.size) (hblk:∀ b,b≠Wg->W'.heap[b]?=W.heap[b]?)
    (hgrp:GrpOk ty Wg rg' pd' bl' st A W') :
    ∃ (ops:Trace) (gs':Array Goroutine),runT P (crowd gs W sl) 0=(.next (crowd gs' W' sl),ops)/\CfgG P Sh ty Wg C N et cs0 Fs Ws pd' rg' bl' (deafBehind d0 es) Z orig O g' w vs st slot ph A τ cs Q gs' W' (t++ops):=by
  have hlt0:=(Eb.1 h.g0).1;obtain ⟨F,h0,hF⟩:=h.main;have hs0:=(h.pg.seen 0 _ h0).2;have hrun:=runT_crowd_go (P:=P) (sl:=sl) (i:=0) h.g0 (show stepG P (0 == 0) (Yj false gm) W=_ from hstep);rw [h.woken (bl':=false) (woken_run h.run)] at hrun;have hgs:(gs.setIfInBounds 0 (Yj false gm)).setIfInBounds 0 (Yj bl' g')=gs.setIfInBounds 0 (Yj bl' g'):=by
    simp
  rw [hgs] at hrun;change _=(_,MemOp.ofEvents 0 gm.frame.fn gm.frame.place es) at hrun;have hg:=Qiu (i:=0) (fn:=gm.frame.fn) (pos:=gm.frame.place) (es:=es);refine ⟨_,_,hrun,?_⟩;refine ⟨by grind,⟨F,h0,hF⟩,h.m0,by rw [Deaf_own,h.dm],by simp [hlt0],hr',ho',by simp [h.len],h.nod,h.act,h.posts,h.sln,h.slN,fun j gj hj hgj=>?_,h.q,h.q0,by rw [hblk C (Ne.symm h.pg.gc)];exact h.row,h.rsz,h.rold,fun b hb=>?_,h.bas,by rw [hW.2.2.2];exact h.size,fun b hb hn=>?_,
    ⟨hW.1.trans h.same.1,hW.2.1.trans h.same.2.1,hW.2.2.1.trans h.same.2.2⟩,h.wgs,h.cF,hgrp⟩
  · rw [Ed (Ne.symm hj)] at hgj;rw [Deaf_other t (Ne.symm hj) _ hg];exact h.oth j gj hj hgj
  · have hbF:F b:=hs0.agr.zf b hb;rw [hblk b (fun e=>hs0.out b (.inl e) hbF)];exact h.orig b hb
  · have:=h.wgs;rw [hblk b (by omega)];exact h.keep b hb hn

theorem CfgG.own (h:CfgG P Sh ty Wg C N et cs0 Fs Ws pd .un false 0 Z orig O gm w vs st slot ph A τ cs Q gs W t) {g':Goroutine} {w':World} (hv:JV P true Z gm w g' w') (hr:g'.status=.running) (sl:Option (Nat×Nat)) :
    ∃ (ops:Trace) (gs':Array Goroutine) (W':World) (vs':Nat->Option View),runT P (crowd gs W sl) 0=(.next (crowd gs' W' sl),ops)/\CfgG P Sh ty Wg C N et cs0 Fs Ws pd .un false 0 Z orig O g' w' vs' st slot ph A τ cs Q gs' W' (t++ops):=by
  obtain ⟨F,h0,hF⟩:=h.main;have hs0:=(h.pg.seen 0 _ h0).2;obtain ⟨hnv,hstep⟩:=hv hs0.nov;obtain ⟨F',W',es,hgo,hat,hes⟩:=hstep F W hs0.agr;have hlt:0 < gs.size:=(Eb.1 h.g0).1;have hWk:∀ b,(b=Wg\/b=C)->W'.heap[b]?=W.heap[b]?:=fun b hb=>hat.keep b (by rcases hb with rfl | rfl;exact h.pg.gl;exact h.pg.cl) (.inl (hs0.out b hb))
  have hrun:=runT_crowd_go (P:=P) (sl:=sl) (i:=0) h.g0 (show stepG P (0 == 0) (Yj false gm) W=_ from hgo);rw [h.woken (bl':=false) (woken_run h.run)] at hrun;have hgs:(gs.setIfInBounds 0 (Yj false gm)).setIfInBounds 0 g'=gs.setIfInBounds 0 g':=by
    simp
  rw [hgs] at hrun;change _=(_,MemOp.ofEvents 0 gm.frame.fn gm.frame.place es) at hrun;have hpi:=h.pg.step h0 h.m0 hat hnv hes gm.frame.fn gm.frame.place;have hg:=Qiu (i:=0) (fn:=gm.frame.fn) (pos:=gm.frame.place) (es:=es);refine ⟨_,_,_,Qbm vs 0 (some ⟨fun b=>F' b/\b < W'.heap.size,Z,w'⟩) W',hrun,?_⟩;refine ⟨by grind,⟨fun b=>F' b/\b < W'.heap.size,by rfl,fun b hb hc=>⟨hat.more b (hF b hb hc),Ec (hs0.bnd b (hF b hb hc)) hat.size⟩⟩,h.m0,
    by rw [Deaf_own,deafBehind_still (fun e he=>Qfj (hes e he))];exact h.dm,by simp [Yj,hlt],hr,fun e=>(by cases e),by simp [h.len],h.nod,fun j=>?_,h.posts,h.sln,h.slN,fun j gj hj hgj=>?_,h.q,h.q0,by rw [hWk C (.inr rfl)];exact h.row,h.rsz,h.rold,fun b hb=>?_,fun j y hy b hb=>?_,Eh h.size hat.size,fun b hb hn=>?_,
    ⟨hat.same.1.trans h.same.1,hat.same.2.1.trans h.same.2.1,hat.same.2.2.trans h.same.2.2⟩,h.wgs,h.cF,h.grp.flags (fun _=>rfl) (fun _=>rfl) (fun _ _=>rfl) (fun e=>e) (hWk Wg (.inl rfl))⟩
  · rw [h.act j]
    grind [JK]
  · rw [Ed (Ne.symm hj)] at hgj;rw [Deaf_other t (Ne.symm hj) _ hg,JK hj];obtain ⟨r2,h1,h2⟩:=h.oth j gj hj hgj;exact ⟨r2,h1,h2.grown _ fun y=>⟨rfl,Qfm⟩⟩
  · rw [hat.keep b (hs0.bnd b (hs0.agr.zf b hb)) (.inr hb)];exact h.orig b hb
  · by_cases hj:j=0
    · subst hj;rw [Qac] at hy;cases hy;rcases hat.new b hb.1 with h1 | h1
      · exact h.bas 0 _ h0 b h1
      · exact .inr (Eh h.size h1.1)
    · rw [JK hj] at hy;obtain ⟨y0,hy0,rfl⟩:=Ea.1 hy;exact h.bas j y0 hy0 b hb
  · rw [hat.keep b (Ec hb h.size) (.inl fun hxb => by
      rcases h.bas 0 _ h0 b hxb with h1 | h1
      · exact hn h1
      · omega)]
    exact h.keep b hb hn

theorem CfgG.cnt (h:CfgG P Sh ty Wg C N et cs0 Fs Ws pd rg bl d0 Z orig O gm w vs st slot ph A τ cs Q gs W t):A.countP (fun i=>(st i).pre)<=N:=by
 refine Eh Ep ?_;have:=Qnd h.sln (fun x hx=>by obtain ⟨j,hj,rfl⟩:=Et.1 hx;exact h.slN j hj);simp_all

theorem MA.running {gE:Goroutine} (hE:gE.status=.running) {m:Nat} {s:AS} {g:Goroutine} (h:MA P ty Wg gE m s g):g.status=.running:=by
 cases m with
 | zero=>rw [h.2];exact hE
 | succ m =>
  rcases h with h | h
  ·simp_all
  ·exact h.1
theorem PG.said0 {lim:Nat->Lv} (h:PG Sh (stA Wg) C Q lim vs n W t) (hin:0 < n) {fn:FuncId} {pos:String} {a:Addr} (ha:a.block=Wg):PG Sh (stA Wg) C Q lim vs n W (t++MemOp.ofEvents 0 fn pos #[Go.ConcR.mk (.read a)])/\PG Sh (stA Wg) C Q lim vs n W (t++MemOp.ofEvents 0 fn pos #[Go.ConcR.mk (.write a)]):=by
 have:=h.gl;have hl:a.block < W.heap.size:=by rw [ha];exact this
 exact ⟨h.one hin (.said a rfl ha (.inl rfl)) hl (by simp [Go.ConcR.mk,MemAct.ofEvent]),h.one hin (.said a rfl ha (.inr rfl)) hl (by simp [Go.ConcR.mk,MemAct.ofEvent])⟩
theorem QGe {gE:Goroutine} {S:Array Goroutine->World->Trace->Prop} (hN:N+1 < 2147483647) (hE:gE.status=.running)
    (hk:∀ w2,Rel w w2->∀ τ vs st ph slot A cs Q gs W sl t,CfgG P Sh ty Wg C N et cs0 Fs Ws 1 .un false 0 Z orig O gE w2 vs st slot ph A τ cs Q gs W t->Reach P S gs W sl t) :
    ∀ m s g,MA P ty Wg gE m s g->∀ τ w1,Rel w w1->∀ vs st ph slot A cs Q gs W sl t,CfgG P Sh ty Wg C N et cs0 Fs Ws s.pd .un false s.deaf Z orig O g w1 vs st slot ph A τ cs Q gs W t->Reach P S gs W sl t:=by
  intro m
  induction m with
  | zero =>
    rintro s g ⟨rfl,rfl⟩ τ w1 hr vs st ph slot A cs Q gs W sl t h;exact hk w1 hr _ _ _ _ _ _ _ _ _ _ _ _ h
  | succ m ih =>
    intro s g hm τ
    induction Qhb τ with
    | intro τ _ ih2 =>
      intro w1 hr vs st ph slot A cs Q gs W sl t h;rcases id hm with ⟨rfl,rfl⟩ | ⟨hrun,hm1⟩
      · exact hk w1 hr _ _ _ _ _ _ _ _ _ _ _ _ h
      obtain ⟨i,gi,d,sl',hgi,hrg,hst,h'⟩:=h.pick ⟨0,g,h.g0,hrun⟩ sl;have hr2:=hr.trans (J0 w1 d);by_cases hi0:i=0
      · subst hi0;have hlive:=h'.grp.live;have hin:0 < gs.size:=(Eb.1 h'.g0).1
        have go : ∀ {g' : Goroutine} {W' : World} {es : Array Event} {s' : AS}, stepG P true g (W.at d) = .go g' W' es -> MA P ty Wg gE m s' g' -> PG Sh (stA Wg) C Q (fun j => (st j).lim) (Qcz vs d) gs.size W' (t ++ MemOp.ofEvents 0 g.frame.fn g.frame.place es) ->
            (W'.tape=(W.at d).tape/\W'.os=(W.at d).os/\W'.output=(W.at d).output/\W'.heap.size=(W.at d).heap.size)->(∀ b,b≠Wg->W'.heap[b]?=(W.at d).heap[b]?)->GrpOk ty Wg .un s'.pd false st A W'->deafBehind s.deaf es=s'.deaf->Reach P S gs W sl t:=by
          intro g' W' es s' hs hm' hpg hW hblk hgrp hd;obtain ⟨ops,gs',h1,h2⟩:=h'.mlib (bl':=false) sl' hs (hm'.running hE) (fun e=>by cases e) hpg hW hblk hgrp
          grind [Reach.step]
        rcases hm1 with hm1 | hm1
        · obtain ⟨g',hs,hm'⟩:=hm1 _ hlive;exact go hs hm' (by rw [Qnf,Es];exact h'.pg) ⟨rfl,rfl,rfl,rfl⟩ (fun _ _=>rfl) h'.grp rfl
        · cases s with
          | K =>
            obtain ⟨g',hs,hm'⟩:=hm1;exact go (hs _ hlive) hm' (h'.pg.mark hin rfl trivial (by simp)) ⟨rfl,rfl,rfl,rfl⟩ (fun _ _=>rfl) h'.grp rfl
          | P1 =>
            obtain ⟨k1,k2,k3⟩:=h'.grp;have hc:=h'.cnt;obtain ⟨g',hs,hm'⟩:=hm1 (A.countP (fun i=>(st i).pre)) (by omega);have k1:WgAt ty Wg (W.at d) (((A.countP (fun i=>(st i).pre):Nat):Int) * KK) 0:=by trivial
            exact go (hs _ k1) hm' ((h'.pg.atom2 hin (by rw [h'.dm];trivial) rfl).set (.inl rfl) _) ⟨rfl,rfl,rfl,Qav⟩ (fun b hb=>Qbp b hb) ⟨k1.setSt _,k2,k3⟩ (Qdx _ (.inr (.inr rfl)))
          | P2 =>
            rcases hm1 with ⟨g',hs,hm'⟩ | ⟨g',hs,hm'⟩
            · exact go (hs _ hlive) hm' (h'.pg.said0 hin rfl).1 ⟨rfl,rfl,rfl,rfl⟩ (fun _ _=>rfl) h'.grp rfl
            · exact go (s':=.E) (hs _ hlive) hm' (h'.pg.mark hin rfl trivial (by simp)) ⟨rfl,rfl,rfl,rfl⟩ (fun _ _=>rfl) h'.grp rfl
          | E=>grind
      · obtain ⟨ops,gs',W',vs',st',τ',cs',bl',w',h1,h2,h3,h4,h5⟩:=h'.other hN (by grind [AS.pd]) hgi hi0 hrg sl';have hbl:bl'=false:=by simp_all
        subst hbl;exact Reach.step (hst.trans h1) (ih2 τ' h2 w' (hr2.trans h3) _ _ _ _ _ _ _ _ _ _ _ h5)
end
end Go.Gw

end
section
set_option linter.unusedVariables false
namespace Go.Gw
open Go Go.Conc
open Go.ConcR (KK wgBlock WgAt stA smA rd wr mk)
section
variable {Sh:Loc->Prop} {ga:Addr} {C n:Nat} {lim:Nat->Lv} {W:World} {t:Trace}
theorem Shows.trans {a b c:World} (h:Shows a b) (k:Shows b c):Shows a c:=fun x cs e fz hx=>k x cs e fz (h x cs e fz hx)
theorem More.refl (w:World):More w w:=⟨rfl,rfl,rfl,rfl,fun _ _ _=>rfl⟩
theorem More.trans {a b c:World} (h:More a b) (k:More b c):More a c :=
 ⟨k.os.trans h.os,k.tape.trans h.tape,k.output.trans h.output,k.size.trans h.size,fun x hx hj=>by
  have:=h.block x hx hj;rw [<-this];exact k.block x (by grind) (by simp_all)⟩
theorem QAl (hl0:lim 0=.no):∀ (B:List Nat) (Q:Nat->Addr->Prop) (vs:Nat->Option View) (x:View),PG Sh ga C Q lim vs n W t->vs 0=some x->B.Nodup->(∀ i∈B,i≠0/\(vs i).isSome=true/\lim i=.zero) ->
    ∃ (Q':Nat->Addr->Prop) (vs':Nat->Option View) (x':View),PG Sh ga C Q' lim vs' n W t/\vs' 0=some x'/\(∀ i∈B,vs' i=none)/\(∀ j,j∉B->j≠0->vs' j=vs j)/\x'.Z=x.Z/\More x.w x'.w/\(∀ i∈B,∀ y,vs i=some y->Shows y.w x'.w) /\
      (∀ b,x'.F b->x.F b\/∃ i∈B,∃ y,vs i=some y/\y.F b)/\(∀ b,x.F b->x'.F b)/\(∀ b,(∀ i∈B,∀ y,vs i=some y->y.F b->x.F b)->x'.w.heap[b]?=x.w.heap[b]?)
  | [],Q,vs,x,h,h0,_,_=>⟨Q,vs,x,h,h0,fun i hi=>(by cases hi),fun _ _ _=>rfl,rfl,More.refl _,fun i hi=>(by cases hi),fun b hb=>.inl hb,fun b hb=>hb,fun _ _=>rfl⟩
  | i::B,Q,vs,x,h,h0,hn,hB=>by
    obtain ⟨hiB,hn⟩:=Em.1 hn;obtain ⟨hi0,his,hiz⟩:=hB i (by simp);obtain ⟨y,hy⟩:=Eg.1 his;have hm:=h.merge h0 hl0 hy hi0 (fun e he=>by rw [hiz] at he;exact he);have hx:=(h.seen 0 x h0).2;have sy:=(h.seen i y hy).2;have hap:=h.apart 0 i x y (Ne.symm hi0) h0 hy;have Yk:∀ k,k≠0->k≠i->(if k=0 then some (⟨fun b=>x.F b\/y.F b,x.Z,Gw.merge x y⟩:View) else if k=i then none else vs k)=vs k:=fun k hk hki=>by simp_all
    have hne:∀ k∈B,k≠i:=fun k hk e=>hiB (e▸hk)
    obtain ⟨Q',vs',x',k1,k2,k3,k4,k5,k6,k7,k8,k9,k10⟩:=QAl hl0 B _ _ ⟨fun b=>x.F b\/y.F b,x.Z,Gw.merge x y⟩ hm (if_pos rfl) hn fun k hk=>by
      simp_all
    have hB0:∀ k∈B,k≠0:=fun k hk=>(hB k (by simp [hk])).1
    refine ⟨Q',vs',x',k1,k2,fun k hk=>?_,fun k hk hk0=>?_,k5,(QPe hx.agr).trans k6,fun k hk z hz=>?_,fun b hb=>?_,fun b hb=>k9 b (.inl hb),fun b hb=>?_⟩
    · grind
    · simp_all
    · rcases El.1 hk with rfl | hk
      · rw [hy] at hz;cases hz;exact (QPg hx.agr sy.agr hap).trans k6.shows
      grind
    · grind
    · have h1 : (Gw.merge x y).heap[b]? = x.w.heap[b]? := by
        rw [Qec];rcases Nat.lt_or_ge b x.w.heap.size with hlt | hge
        · by_cases hF:x.F b
          · simp [hF]
          · have hyF:¬ y.F b:=fun e=>hF (hb i (by simp) y hy e)
            rw [hx.agr.hid b hF hlt];grind
        simp_all
      grind
end

def J1 (C:Nat) (cs:Array Value) (et:TypeId) (w:World):World:={ w with heap:=w.heap.setIfInBounds C (.cells cs et (0,0)) }
theorem Qgd {C b:Nat} {cs:Array Value} {et:TypeId} {w:World} (h:b≠C):(J1 C cs et w).heap[b]?=w.heap[b]?:=Ed (Ne.symm h)
theorem Qtx {C:Nat} {cs:Array Value} {et:TypeId} {w:World} (h:C < w.heap.size):(J1 C cs et w).heap[C]?=some (.cells cs et (0,0)):=by simp [J1,h]
theorem Qty {C:Nat} {cs:Array Value} {et:TypeId} {w:World}:(J1 C cs et w).heap.size=w.heap.size:=by simp [J1]
def ShG (Sh:Loc->Prop) (Wg:Nat):Loc->Prop:=fun l=>Sh l\/∃ ad,l=.cell ad/\ad.block=Wg
structure FullG (C N Low:Nat) (cs0:Array Value) (O:List (Nat×(Value->World->Prop))) (w1 w':World) (cs:Array Value):Prop where
 more:More w1 w'
 low:∀ b,b < Low->b≠C->w'.heap[b]?=w1.heap[b]?
 size:cs.size=N
 full:∀ p∈O,∃ v xw,cs[p.1]?=some v/\p.2 v xw/\Shows xw w'
 rest:∀ k,(∀ p∈O,p.1≠k)->cs[k]?=cs0[k]?

section
variable {P:Program} {Sh:Loc->Prop} {ty:TypeId} {Wg C N:Nat} {et:TypeId} {cs0:Array Value} {Fs:Nat->Prop} {Ws:World} {pd:Nat} {rg:Rg} {bl:Bool} {d0:Nat} {Z:Nat->Prop} {orig:Nat->Option Obj}
variable {O:List (Nat×(Value->World->Prop))} {gm:Goroutine} {w:World} {vs:Nat->Option View} {st st':Nat->Ph} {slot:Nat->Nat} {ph:Nat->Value->World->Prop} {A:List Nat} {τ:List Tr} {cs:Array Value} {Q:Nat->Addr->Prop}
variable {gs:Array Goroutine} {W W':World} {t:Trace} {n:Nat} {S:Goroutine->World->Prop}

theorem Ph.cases {p:Ph} (h1:p.pre=false) (h2:p.late=false):p=.quit\/p=.gone:=by
 cases p with
 | priv=>cases h1
 | quit=>simp
 | gone=>simp
 | lib s=>cases s<;>simp_all [Ph.pre,Ph.late]
def Ph.acq:Ph->Ph
 | .priv=>.priv
 | .lib .A=>.lib .A
 | _=>.gone
theorem Ph.acq_lim (p:Ph):p.acq.lim=p.lim.acq:=by
 cases p with
 | lib s=>cases s<;>rfl
 | _=>rfl
theorem CfgG.acquire {g':Goroutine} (h:CfgG P Sh ty Wg C N et cs0 Fs Ws pd .fin false 0 Z orig O gm w vs st slot ph A τ cs Q gs W t) (hq:stepG P true gm W=.go g' W #[Go.ConcR.mk (.acquire (stA Wg))]) (hE:g'.status=.running) (sl:Option (Nat×Nat)) :
    ∃ (ops:Trace) (gs':Array Goroutine),runT P (crowd gs W sl) 0=(.next (crowd gs' W sl),ops)/\CfgG P Sh ty Wg C N et cs0 Fs Ws pd .acq false 0 Z orig O g' w vs (fun i=>(st i).acq) slot ph A τ cs Q gs' W (t++ops):=by
  obtain ⟨k1,k2,k3,k4,k5⟩:=h.grp;have hin:0 < gs.size:=(Eb.1 h.g0).1;obtain ⟨ops,gs',hrun,h2⟩:=h.mlib (bl':=false) (rg':=.fin) (pd':=pd) sl hq hE (fun e=>by cases e) (h.pg.mark (m:=.acquire (stA Wg)) hin rfl h.pg.gl (by simp)) ⟨rfl,rfl,rfl,rfl⟩ (fun _ _=>rfl) ⟨k1,k2,k3,k4,k5⟩;have hacq:=h.pg.acq hin h.dm gm.frame.fn gm.frame.place;have hrun':=runT_crowd_go (P:=P) (sl:=sl) (i:=0) h.g0 (show stepG P (0 == 0) (Yj false gm) W=_ from hq);have hops:ops=MemOp.ofEvents 0 gm.frame.fn gm.frame.place #[Go.ConcR.mk (.acquire (stA Wg))]:=by
    rw [hrun'] at hrun;exact ((Prod.mk.inj hrun).2).symm
  have et1:t++ops=t++#[{ g:=0,fn:=gm.frame.fn,pos:=gm.frame.place,act:=.mark (.acquire (stA Wg)) }]:=by rw [hops,QBp];rfl
  have hgs:gs'.size=gs.size:=by have:=h2.len;rw [h.len] at this;omega
  rw [<-et1] at hacq;have hquit:∀ i∈A,st i=.quit\/st i=.gone:=fun i hi=>Ph.cases (by
    simp_all) (k5 i hi)
  refine ⟨ops, gs', hrun, ⟨by rw [hgs]; have e : (fun i => ((st i).acq).lim) = fun j => ((st j).lim).acq := funext fun j => Ph.acq_lim _
                              simp_all,h2.main,by rw [Ph.acq_lim,h.m0];rfl,h2.dm,h2.g0,h2.run,h2.off,h2.len,h2.nod,h2.act,h2.posts,h2.sln,h2.slN,fun i gi hi hgi=>?_,h2.q,h2.q0,h2.row,h2.rsz,h2.rold,h2.orig,h2.bas,h2.size,h2.keep,h2.same,h2.wgs,h2.cF,⟨k1,k3,rfl,fun i hi=>by dsimp only;rcases hquit i hi with e | e<;>rw [e]<;>rfl⟩⟩⟩
  obtain ⟨r,h3,h4⟩:=h2.oth i gi hi hgi;refine ⟨r,h3,?_⟩;cases hv:vs i with
  | none=>rw [hv] at h4;exact h4
  | some y =>
    rw [hv] at h4;rcases hquit i ((h.act i).2 ⟨hi,by rw [hv];rfl⟩) with e | e<;>(rw [e] at h4 ⊢;exact h4)
theorem CfgG.join (hSh:∀ (l:Loc) (ad:Addr),AtL l ad->Sh l->ad.block < Ws.heap.size/\¬ Fs ad.block) (h:CfgG P Sh ty Wg C N et cs0 Fs Ws pd .acq false 0 Z orig O gm w vs st slot ph A τ cs Q gs W t)
  (hS:∀ w' cs,FullG C N Ws.heap.size cs0 O w w' cs->S gm (thaw Z orig (J1 C cs et w'))):Fin0 P (ShG Sh Wg) S Fs Ws gs W t:=by
 obtain ⟨k1,k2,k3,k4⟩:=h.grp;have hin:0 < gs.size:=(Eb.1 h.g0).1;obtain ⟨F,h0,hF⟩:=h.main;have hAs:∀ i∈A,i≠0/\(vs i).isSome=true/\(st i).lim=.zero:=fun i hi=>by
  obtain ⟨a1,a2⟩:=(h.act i).1 hi;exact ⟨a1,a2,by rw [k4 i hi];rfl⟩
 obtain ⟨Q',vs',x',p1,p2,p3,p4,p5,p6,p7,p8,p9,p10⟩:=QAl (lim:=fun j=>(st j).lim) h.m0 A Q vs ⟨F,Z,w⟩ h.pg h0 h.nod hAs;have hs:=(p1.seen 0 x' p2).2;have hno:∀ j,j≠0->vs' j=none:=fun j hj=>by
  by_cases hA:j∈A
  ·grind
  ·rw [p4 j hA hj];cases hv:vs j with
   | none=>rfl
   | some y=>exact absurd ((h.act j).2 ⟨hj,by rw [hv];rfl⟩) hA
 have hk0:∀ e,(∃ j,(vs' j).isSome=true/\Kn (stA Wg) t ((st j).lim) j e)->Knows t 0 e:=fun e ⟨j,a1,a2⟩=>by
  by_cases hj:j=0
  ·subst hj;exact a2.no h.m0
  simp_all
 have hFx:∀ b,x'.F b->Fs b\/Ws.heap.size<=b:=fun b hb=>by
  rcases p8 b hb with a | ⟨i,hi,y,hy,a⟩
  ·exact h.bas 0 _ h0 b a
  ·exact h.bas i y hy b a
 have hCx:¬ x'.F C:=fun e=>hs.out C (.inr rfl) e
 have hZx:∀ b,Z b->x'.F b:=fun b hb=>p9 b ((h.pg.seen 0 _ h0).2.agr.zf b hb)
 have hZ':∀ b,x'.Z b↔Z b:=fun b=>by rw [p5]
 have hsz:C < x'.w.heap.size:=by rw [<-hs.agr.size];exact h.pg.cl
 have hfull:FullG C N Ws.heap.size cs0 O w x'.w cs:=by
  refine ⟨p6,fun b hb hbC=>p10 b fun i hi y hy hyb=>?_,h.rsz,fun p hp=>?_,fun k hk=>h.rold k fun i hi=>?_⟩
  ·rcases h.bas i y hy b hyb with a | a
   ·simp_all
   ·omega
  ·rw [h.posts] at hp;obtain ⟨i,hi,rfl⟩:=Et.1 hp;obtain ⟨hi0,his⟩:=(h.act i).1 hi;obtain ⟨y,hy⟩:=Eg.1 his;have hlt:=(h.pg.seen i y hy).1;obtain ⟨r,_,hr⟩:=h.oth i _ hi0 (Ee hlt);rw [hy,k4 i hi] at hr;obtain ⟨_,u,a1,a2⟩:=hr;exact ⟨u,y.w,a1,a2 _ (Rel.refl _),p7 i hi y hy⟩
  ·exact hk (slot i,ph i) (by rw [h.posts];grind)
 have hqe:∀ i:Nat,∃ k,∀ gi,i≠0->gs[i]?=some gi->QuitsD P k (Deaf t i) gi:=fun i=>by
  by_cases hi:i≠0/\∃ gi,gs[i]?=some gi
  ·obtain ⟨hi0,gi,hgi⟩:=hi;obtain ⟨r,_,hr⟩:=h.oth i gi hi0 hgi;cases hv:vs i with
   | none =>
    rw [hv] at hr;obtain ⟨k,_,hk⟩:=hr;exact ⟨k,fun gi' _ hgi'=>by simp_all⟩
   | some y =>
    rw [hv,k4 i ((h.act i).2 ⟨hi0,by rw [hv];rfl⟩)] at hr;obtain ⟨⟨k,_,hk⟩,_⟩:=hr;exact ⟨k,fun gi' _ hgi'=>by simp_all⟩
  simp_all
 refine ⟨gm,fun b=>x'.F b\/b=C,_,fun i=>Classical.choose (hqe i),h.g0,hS x'.w cs hfull,⟨?_,?_,fun b hb=>?_,fun l ad hat had hsh=>?_,fun l ad hat hsh=>?_,⟨p1.clean,fun e a ha hm=>?_,fun e g hge hne hc=>?_,h.dm,p1.low⟩,⟨fun i gi hi hgi=>Classical.choose_spec (hqe i) gi (by omega) hgi,p1.above⟩⟩,⟨fun b hb=>?_,fun b hb=>?_,h.keep,h.size,h.same⟩⟩
 ·refine ⟨hs.agr.tape,hs.agr.drawn,hs.agr.os,hs.agr.output,by rw [Qvs,Qty];exact hs.agr.size,fun b hb _=>?_,fun b _ h=>h.elim,fun b hb hlt=>?_,fun b h=>h.elim⟩
  ·rw [Qgn];by_cases hbC:b=C
   ·subst hbC;have hz:¬ Z b:=fun hz=>hCx (hZx b hz)
    rw [Qtx hsz,h.row];simp [hz]
   ·have hb:x'.F b:=hb.resolve_right hbC;have hlt:=hs.bnd b hb;have hlt':b < x'.w.heap.size:=by rw [<-hs.agr.size];exact hlt
    rw [Qgd hbC];by_cases hz:Z b
    ·rw [Ee hlt'];simp only [Ek,if_pos hz];have:=h.orig b hz
     grind
    ·rw [hs.agr.own b hb (fun e=>hz ((hZ' b).1 e))];simp [hz]
  ·rw [Qvs,Qty] at hlt;have hbC:b≠C:=fun e=>hb (.inr e)
   have hb':¬ x'.F b:=fun e=>hb (.inl e)
   have hz:¬ Z b:=fun hz=>hb' (hZx b hz)
   rw [Qgn,Qgd hbC,hs.agr.hid b hb' hlt];simp [hz]
 ·intro b a u e;rw [Qgn] at e;by_cases hbC:b=C
  ·grind [Qtx]
  ·rw [Qgd hbC] at e;cases hb:x'.w.heap[b]? with
   | none=>simp_all
   | some o =>
    rw [hb] at e;simp only [Ek,Eo.injEq] at e;by_cases hz:Z b
    ·rw [if_pos hz] at e;obtain ⟨cs1,e1,fz,h1,h2⟩:=hs.agr.shr b (hZx b hz) ((hZ' b).2 hz);rw [<-h.orig b hz,h2] at e;cases e
    ·rw [if_neg hz] at e;subst e;exact hs.nov b a u hb
 ·rcases hb with hb | rfl
  ·exact hs.bnd b hb
  ·exact h.pg.cl
 ·rcases hsh with hsh | ⟨ad',e,hw⟩
  ·obtain ⟨a1,a2⟩:=hSh _ ad hat hsh;rcases had with had | had
   ·grind
   ·rw [had] at a2;exact a2 h.cF
  ·subst e;cases hat;rcases had with had | had
   ·rw [hw] at had;exact hs.out _ (.inl rfl) had
   ·exact h.pg.gc (hw.symm.trans had)
 ·rcases hsh with hsh | ⟨ad',e,hw⟩
  ·exact Ec (hSh _ ad hat hsh).1 h.size
  ·subst e;cases hat;rw [hw];exact h.pg.gl
 ·rcases p1.known e a ha hm with a1 | a1 | ⟨ad,a1,a2,a3⟩ | a1
  ·grind
  ·exact .inr ⟨.inl a1.1,a1.2⟩
  ·exact .inr ⟨.inr ⟨ad,a1,a2⟩,a3⟩
  grind
 ·rcases p1.over e g hge hne hc with a1 | a1
  ·exact a1
  ·exact QLv (hk0 e a1) hge hne
 ·grind
 ·rcases hb with hb | rfl
  ·grind
  ·exact .inl h.cF
end
end Go.Gw

end
