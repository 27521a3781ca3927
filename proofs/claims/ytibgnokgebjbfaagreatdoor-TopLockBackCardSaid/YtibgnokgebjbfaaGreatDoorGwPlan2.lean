/- Laws of the walk. Condition: each theorem says its own. -/
import Derived.Test.YtibgnokgebjbfaaGreatDoorGwLib5
set_option linter.unusedVariables false
set_option linter.unusedSimpArgs false
set_option linter.unusedSectionVars false
section
set_option linter.unusedSectionVars false
namespace Go.Gw
open Go
section
variable {P:Program} [JD P] {n:Nat} {q:Post} {ρ:Env} {w:World}

def TX (P:Program) [JD P] (n:Nat) (ops:List Oper) (K:Env->World->Prop):Pl->Env->World->Prop
  | .done,ρ,w=>K ρ w
  | .p i r,ρ,w=>∃ o v,ops[i]?=some o/\Quiet P n ops.toArray (fun _=>True) o ρ v/\TX P n ops K r (Xu ρ o.dst v) w
  | .q i r,ρ,w=>∃ o v,ops[i]?=some o/\Quiet P n ops.toArray (Ext w) o ρ v/\TX P n ops K r (Xu ρ o.dst v) w
  | .e i r,ρ,w=>∃ o,ops[i]?=some o/\Stp P n ops.toArray o ρ w (fun ρ' w'=>Ext w w'/\TX P n ops K r ρ' w')
  | .b i r,ρ,w=>∃ o,ops[i]?=some o/\Stp P n ops.toArray o ρ w (fun ρ' w'=>TX P n ops K r ρ' w')
  | .f i r j s, ρ, w => (∃ o, ops[i]? = some o /\ Stp P n ops.toArray o ρ w (fun ρ' w' => Ext w w' /\ TX P n ops K r ρ' w')) /\
      (∃ o,ops[j]?=some o/\Stp P n ops.toArray o ρ w (fun ρ' w'=>Ext w w'/\TX P n ops K s ρ' w'))

def anyX (P:Program) [JD P] (ops:Array Oper) (Q:Exit->Act->World->Prop) (bs:List Nat) (Kt:Array Bool->Act->World->Prop):Nat->(World->Prop)->Array Bool->Act->World->Prop
 | 0,_,listed,a,w=>Kt listed a w
 | fuel+1,S,listed,a,w=>Region.ready .any ops listed≠[]/\∀ i∈Region.ready .any ops listed,Zo (JD.j (P:=P)) ops i (fun a' w'=>∃ S':World->Prop,(bs.contains i=false->S w->S' w'/\∀ x,S' x->S x)/\anyX P ops Q bs Kt fuel S' (listed.setIfInBounds i true) a' w') a w

theorem anyX.toAny {ops:Array Oper} {Q:Exit->Act->World->Prop} {bs:List Nat} {Kt:Array Bool->Act->World->Prop} (ht:∀ listed a w,Kt listed a w->Qbt (JD.j (P:=P)) ops Q 0 listed a w) :
  ∀ (fuel:Nat) (S:World->Prop) (listed:Array Bool) (a:Act) (w:World),anyX P ops Q bs Kt fuel S listed a w->Qbt (JD.j (P:=P)) ops Q fuel listed a w
 | 0,_,listed,a,w,h=>ht _ _ _ h
 | fuel+1,S,listed,a,w,h=>⟨fun h0=>absurd h0 h.1,fun i hi=>Qla (fun a' w' ⟨S',_,h'⟩=>anyX.toAny ht fuel S' _ a' w' h') (h.2 i hi)⟩

theorem Qiu {ops:Array Oper} {Q:Exit->Act->World->Prop} {bs:List Nat} {Si:World->Prop} {Kt:Array Bool->Act->World->Prop} {i:Nat} {oi:Oper} {v:Value} (hi:ops[i]?=some oi)
    (hb:(∀ b∈bs,Qcg ops ops.size b i=true)\/∀ w,Si w)
    (hsel:∀ (j:Nat) (o:Oper) cs b,ops[j]?=some o->o.op≠.select cs b) :
    ∀ (fuel:Nat) (S:World->Prop) (listed:Array Bool) (a:Act) (w:World),listed.size=ops.size->Closed ops listed->fuel+1=JM listed ops.size ->
      (∀ j oj,ops[j]?=some oj->j≠i->listed.getD j true=false->(∀ e∈oj.after,Region.binds .any e=true->e.on≠i)->oi.apart ops oj=true) ->
      i∈Region.ready .any ops listed->YldJ P ops Si oi v a->Si w->((S w/\∀ x,S x->Si x)\/∀ w,Si w) ->
      anyX P ops Q bs Kt fuel S (listed.setIfInBounds i true) (a.put oi.dst v) w->anyX P ops Q bs Kt (fuel+1) S listed a w:=by
  have hlt:∀ {j:Nat} {listed:Array Bool},j∈Region.ready .any ops listed->j < ops.size:=fun hj=>by
    obtain ⟨_,oj,hoj,_⟩:=mem_ready.1 hj;exact (Array.getElem?_eq_some_iff.1 hoj).1
  have him:=(Array.getElem?_eq_some_iff.1 hi).1;intro fuel
  induction fuel with
  | zero =>
    intro S listed a w hls hcl hcnt _ hr hy hSw hD H;have hiu:=(mem_ready.1 hr).1;refine ⟨fun h=>(by rw [h] at hr;cases hr),fun j hj=>?_⟩;by_cases hji:j=i
    · subst hji;exact hy.op hi hSw ⟨S,fun _ h=>⟨h,fun _ h=>h⟩,H⟩
    · exfalso;have:=Qzp (listed:=listed) (hlt hj) him hji (by simpa using (mem_ready.1 hj).1) (by simpa using hiu);omega
  | succ fuel ih =>
    intro S listed a w hls hcl hcnt hfree hr hy hSw hD H;have hiu:=(mem_ready.1 hr).1;refine ⟨fun h=>(by rw [h] at hr;cases hr),fun j hj=>?_⟩;by_cases hji:j=i
    · subst hji;exact hy.op hi hSw ⟨S,fun _ h=>⟨h,fun _ h=>h⟩,H⟩
    · have h1:=H.2 j (ready_mono hj hji);obtain ⟨hjun,oj,hoj,hall⟩:=mem_ready.1 hj;have hnot:∀ e∈oj.after,Region.binds .any e=true->e.on≠i:=fun e he hb heq=>by
        have h1:=hall e he hb;have h0:=(mem_ready.1 hr).1;rw [heq] at h1;rcases Nat.lt_or_ge i listed.size with h' | h'
        · simp [h'] at h0 h1;rw [h0] at h1;cases h1
        · simp [Array.getElem?_eq_none h'] at h1
      have h2:=Qxc hoj (hfree j oj hoj hji hjun hnot) (fun cs b=>hsel i oi cs b hi) (fun cs b=>hsel j oj cs b hoj) hy h1
      have hfree' : ∀ k ok, ops[k]? = some ok -> k ≠ i -> (listed.setIfInBounds j true).getD k true = false ->
          (∀ e∈ok.after,Region.binds .any e=true->e.on≠i)->oi.apart ops ok=true:=fun k ok hk hki hun hno=>hfree k ok hk hki (QRd hun).1 hno
      have hbj:bs.contains j=false\/∀ w,Si w:=by
        rcases hb with hb | hb
        · left;cases hc:bs.contains j with
          | false=>rfl
          | true =>
            exfalso;have hm:=Qqa hcl _ _ _ _ hoj hall (hb j (by simpa using hc));have him':i < listed.size:=by rw [hls];exact him
            simp [Array.getD,him'] at hiu hm;rw [hiu] at hm;cases hm
        · exact .inr hb
      refine Qla (fun a' w' h3=>?_) h2;obtain ⟨hy',S',hk',h4⟩:=h3;refine ⟨S',hk',?_⟩;have hD':(S' w'/\∀ x,S' x->Si x)\/∀ w,Si w:=by
        rcases hD with hD | hD
        · rcases hbj with hbj | hbj
          · exact .inl ⟨(hk' hbj hD.1).1,fun x hx=>hD.2 x ((hk' hbj hD.1).2 x hx)⟩
          · exact .inr hbj
        · exact .inr hD
      have hSw':Si w':=by
        rcases hD' with h | h
        · exact h.2 _ h.1
        · exact h _
      refine ih S' (listed.setIfInBounds j true) a' w' (by simpa using hls) (hcl.set hj) (by have:=Jo (listed:=listed) (hlt hj) (by simpa using hjun);omega) hfree' (ready_mono hr (Ne.symm hji)) hy' hSw' hD' ?_;rw [Array.setIfInBounds_comm _ _ hji];exact h4

theorem TX.toX {ops:List Oper} {bs:List Nat} {K:Env->World->Prop} (hsel:Region.noSelect ops.toArray=true) (hK:∀ ρ w,K ρ w->q.norm ρ w) :
  ∀ (p:Pl) (listed:Array Bool) (ρ:Env) (w:World),listed.size=ops.toArray.size->Closed ops.toArray listed->JM listed ops.toArray.size=p.len->Jg ops.toArray bs p listed=true ->
  TX P n ops K p ρ w->anyX P ops.toArray (q.Q n) bs (fun listed a w=>Qbt (JD.j (P:=P)) ops.toArray (q.Q n) 0 listed a w) p.len (Ext w) listed (act n ρ) w
 | .done,listed,ρ,w,_,_,_,hok,h=>⟨by simpa [Jg] using hok,ρ,rfl,hK _ _ h⟩
 | .p i r,listed,ρ,w,hls,hcl,hc,hok,h=>by
  simp only [Jg,Bool.and_eq_true] at hok;obtain ⟨⟨hf,hr⟩,hrest⟩:=hok;obtain ⟨o,v,hi',hq,ht⟩:=h;have hi:ops.toArray[i]?=some o:=by simpa using hi'
  have him:=(Array.getElem?_eq_some_iff.1 hi).1;have hr:i∈Region.ready .any ops.toArray listed:=by simpa using hr
  have hc':=Jo (listed:=listed) him (by simpa using (mem_ready.1 hr).1);simp only [Pl.len] at hc;refine Qiu (Si:=fun _=>True) hi (.inr fun _=>trivial) (Region.noSelect_spec hsel) r.len (Ext w) listed _ w hls hcl hc.symm (Region.free_spec hi hf) hr hq.yields trivial (.inr fun _=>trivial) ?_;rw [Ja];exact TX.toX hsel hK r _ _ w (by simpa using hls) (hcl.set hr) (by omega) hrest ht
 | .q i r,listed,ρ,w,hls,hcl,hc,hok,h=>by
  simp only [Jg,Bool.and_eq_true,List.all_eq_true] at hok;obtain ⟨⟨⟨hm,hf⟩,hr⟩,hrest⟩:=hok;obtain ⟨o,v,hi',hq,ht⟩:=h;have hi:ops.toArray[i]?=some o:=by simpa using hi'
  have him:=(Array.getElem?_eq_some_iff.1 hi).1;have hr:i∈Region.ready .any ops.toArray listed:=by simpa using hr
  have hc':=Jo (listed:=listed) him (by simpa using (mem_ready.1 hr).1);simp only [Pl.len] at hc;refine Qiu (Si:=Ext w) hi (.inl hm) (Region.noSelect_spec hsel) r.len (Ext w) listed _ w hls hcl hc.symm (Region.free_spec hi hf) hr hq.yields (Chg.refl _ _) (.inl ⟨Chg.refl _ _,fun _ h=>h⟩) ?_;rw [Ja];exact TX.toX hsel hK r _ _ w (by simpa using hls) (hcl.set hr) (by omega) hrest ht
 | .e i r,listed,ρ,w,hls,hcl,hc,hok,h=>by
  simp only [Jg,Bool.and_eq_true,beq_iff_eq] at hok;obtain ⟨hr,hnb,hrest⟩:=hok;obtain ⟨o,hi',hs⟩:=h;have hi:ops.toArray[i]?=some o:=by simpa using hi'
  have hr':i∈Region.ready .any ops.toArray listed:=by rw [hr];simp
  have hc':=Jo (listed:=listed) (Array.getElem?_eq_some_iff.1 hi).1 (by simpa using (mem_ready.1 hr').1);simp only [Pl.len] at hc;refine ⟨by rw [hr];simp,fun j hj=>?_⟩;have hj:j=i:=by rw [hr] at hj;simpa using hj
  subst hj;exact hs.toOp hi fun ρ w' h'=>⟨Ext w',fun _ _=>⟨Chg.refl _ _,fun _ hx=>Chg.trans h'.1 hx⟩,TX.toX hsel hK r _ _ w' (by simpa using hls) (hcl.set hr') (by omega) hrest h'.2⟩
 | .b i r,listed,ρ,w,hls,hcl,hc,hok,h=>by
  simp only [Jg,Bool.and_eq_true,beq_iff_eq] at hok;obtain ⟨hr,hib,hnq,hrest⟩:=hok;obtain ⟨o,hi',hs⟩:=h;have hi:ops.toArray[i]?=some o:=by simpa using hi'
  have hr':i∈Region.ready .any ops.toArray listed:=by rw [hr];simp
  have hc':=Jo (listed:=listed) (Array.getElem?_eq_some_iff.1 hi).1 (by simpa using (mem_ready.1 hr').1);simp only [Pl.len] at hc;refine ⟨by rw [hr];simp,fun j hj=>?_⟩;have hj:j=i:=by rw [hr] at hj;simpa using hj
  subst hj;refine hs.toOp hi fun ρ w' h'=>⟨Ext w',?_,TX.toX hsel hK r _ _ w' (by simpa using hls) (hcl.set hr') (by omega) hrest h'⟩;intro hb;rw [hib] at hb;cases hb
 | .f i r j s,listed,ρ,w,hls,hcl,hc,hok,h=>by
  simp only [Jg,Bool.and_eq_true,beq_iff_eq] at hok;obtain ⟨hr,hlen,hn1,hn2,hrest,hrest2⟩:=hok;obtain ⟨⟨o,hi',hs⟩,o2,hj',hs2⟩:=h;have hi:ops.toArray[i]?=some o:=by simpa using hi'
  have hj2:ops.toArray[j]?=some o2:=by simpa using hj'
  have hri:i∈Region.ready .any ops.toArray listed:=by rw [hr];simp
  have hrj:j∈Region.ready .any ops.toArray listed:=by rw [hr];simp
  have hci:=Jo (listed:=listed) (Array.getElem?_eq_some_iff.1 hi).1 (by simpa using (mem_ready.1 hri).1);have hcj:=Jo (listed:=listed) (Array.getElem?_eq_some_iff.1 hj2).1 (by simpa using (mem_ready.1 hrj).1);have hlen:r.len=s.len:=by simpa using hlen
  simp only [Pl.len] at hc;refine ⟨by rw [hr];simp,fun k hk=>?_⟩;rw [hr] at hk;rcases List.mem_cons.1 hk with rfl | hk
  ·exact hs.toOp hi fun ρ w' h'=>⟨Ext w',fun _ _=>⟨Chg.refl _ _,fun _ hx=>Chg.trans h'.1 hx⟩,TX.toX hsel hK r _ _ w' (by simpa using hls) (hcl.set hri) (by omega) hrest h'.2⟩
  ·have hk:k=j:=by simpa using hk
   subst hk;have:=fun ρ w' (h':Ext w w'/\TX P n ops K s ρ w')=>TX.toX hsel hK s (listed.setIfInBounds k true) ρ w' (by simpa using hls) (hcl.set hrj) (by omega) hrest2 h'.2
   refine hs2.toOp hj2 fun ρ w' h'=>⟨Ext w',fun _ _=>⟨Chg.refl _ _,fun _ hx=>Chg.trans h'.1 hx⟩,?_⟩;have h3:=this ρ w' h';rw [<-hlen] at h3;exact h3

theorem Qng {id:Nat} {ops:List Oper} (hm:P.follows .mixedOrders=true) (p:Pl) (hok:Qxj ops.toArray p=true) (h:∀ w1,Ext w w1->TX P n ops q.norm p ρ w1):WC P n (.region id ops.toArray true) q ρ w:=by
 simp only [Qxj,Bool.and_eq_true] at hok;obtain ⟨hsel,hl,hp⟩:=hok;have hl:p.len=ops.toArray.size:=by simpa [Nat.beq_eq] using hl
 refine Qzv hm ?_;have h1:=TX.toX (q:=q) hsel (fun _ _ h=>h) p (Array.replicate ops.toArray.size false) ρ { w with drawn:=w.drawn+1 } (by simp) (Closed.none _ _) (by rw [Qsm _ _ (Nat.le_refl _),hl]) hp (h _ (Ext.drew w));have h2:=anyX.toAny (fun _ _ _ h=>h) p.len _ _ _ _ h1;rw [hl] at h2;exact h2

section
variable {K:Env->World->Prop} {ops:List Oper} {o:Oper} {i:Nat} {r:Pl} {v:Value}
theorem Qnf (h:K ρ w):TX P n ops K .done ρ w:=h
theorem Yv (hi:ops[i]?=some o) (hw:X0 ops.toArray o n ρ=true) (hy:∀ w',Yl P n ρ o w' v) (h:TX P n ops K r (Xu ρ o.dst v) w):TX P n ops K (.p i r) ρ w :=
 ⟨o,v,hi,.inl ⟨hw,fun w' _=>hy w'⟩,h⟩
theorem Qcs (hi:ops[i]?=some o) (hw:X0 ops.toArray o n ρ=true) (hy:∀ w',Ext w w'->Yl P n ρ o w' v) (h:TX P n ops K r (Xu ρ o.dst v) w):TX P n ops K (.q i r) ρ w :=
 ⟨o,v,hi,.inl ⟨hw,hy⟩,h⟩
theorem QAi (hi:ops[i]?=some o) (hw:X0 ops.toArray o n ρ=true) (h:Eff P o n ρ w (fun v w'=>Ext w w'/\TX P n ops K r (Xu ρ o.dst v) w')):TX P n ops K (.e i r) ρ w :=
 ⟨o,hi,by unfold Stp;rw [if_pos hw];exact h⟩
theorem QAh (hi:ops[i]?=some o) (hw:X0 ops.toArray o n ρ=true) (h:Eff P o n ρ w (fun v w'=>TX P n ops K r (Xu ρ o.dst v) w')):TX P n ops K (.b i r) ρ w :=
 ⟨o,hi,by unfold Stp;rw [if_pos hw];exact h⟩
end
end
end Go.Gw

end
section
set_option linter.unusedSectionVars false
namespace Go.Gw
open Go
section
variable {P:Program} [JD P] {n:Nat} {q:Post} {ρ:Env} {w:World}

inductive Px where
 | done
 | p (i:Nat) (r:Px)
 | q (i:Nat) (r:Px)
 | m (s:Px)
 | a (i:Nat) (r s:Px)
 | c (i:Nat) (r s:Px)
 | z
def Px.hasQ:Px->Bool
 | .done=>false
 | .p _ r=>r.hasQ
 | .q _ _=>true
 | .m s=>s.hasQ
 | .a _ r s=>r.hasQ||s.hasQ
 | .c _ r s=>r.hasQ||s.hasQ
 | .z=>false
def Px.len:Px->Nat
 | .done=>0
 | .p _ r=>r.len+1
 | .q _ r=>r.len+1
 | .m s=>s.len
 | .a _ r _=>r.len+1
 | .c _ r _=>r.len+1
 | .z=>0
def Px.brk:Px->List Nat
 | .done=>[]
 | .p _ r=>r.brk
 | .q _ r=>r.brk
 | .m s=>s.brk
 | .a _ r s=>r.brk++s.brk
 | .c i r s=>i::(r.brk++s.brk)
 | .z=>[]
def Px.heads:Px->List Nat
 | .a i _ s=>i::s.heads
 | .c i _ s=>i::s.heads
 | _=>[]
def Px.inChain:Px->Bool
 | .a _ _ _=>true
 | .c _ _ _=>true
 | .z=>true
 | _=>false
def Px.chain (k:Nat):Px->Bool
 | .a _ r s=>Nat.beq (r.len+1) k&&(!r.inChain&&s.chain k)
 | .c _ r s=>Nat.beq (r.len+1) k&&(!r.inChain&&s.chain k)
 | .z=>true
 | _=>false
def TZ (P:Program) [JD P] (n:Nat) (ops:List Oper) (K:Env->World->Prop):Px->Env->World->Prop
 | .done,ρ,w=>K ρ w
 | .p i r,ρ,w=>∃ o v,ops[i]?=some o/\Quiet P n ops.toArray (fun _=>True) o ρ v/\TZ P n ops K r (Xu ρ o.dst v) w
 | .q i r,ρ,w=>∃ o v,ops[i]?=some o/\Quiet P n ops.toArray (Ext w) o ρ v/\TZ P n ops K r (Xu ρ o.dst v) w
 | .m s,ρ,w=>TZ P n ops K s ρ w
 | .a i r s,ρ,w=>(∃ o,ops[i]?=some o/\Stp P n ops.toArray o ρ w (fun ρ' w'=>Ext w w'/\TZ P n ops K r ρ' w'))/\TZ P n ops K s ρ w
 | .c i r s,ρ,w=>(∃ o,ops[i]?=some o/\Stp P n ops.toArray o ρ w (fun ρ' w'=>TZ P n ops K r ρ' w'))/\TZ P n ops K s ρ w
 | .z,_,_=>True
def Z7 (ops:Array Oper) (bs:List Nat):Px->Array Bool->Bool
 | .done,listed=>(Region.ready .any ops listed).isEmpty
 | .p i r,listed=>!r.inChain&&Region.free .any ops listed i&&(Region.ready .any ops listed).contains i&&Z7 ops bs r (listed.setIfInBounds i true)
 | .q i r,listed=>!r.inChain&&(bs.all fun b=>Qcg ops ops.size b i)&&Region.free .any ops listed i&&(Region.ready .any ops listed).contains i&&Z7 ops bs r (listed.setIfInBounds i true)
 | .m s,listed=>Region.ready .any ops listed == s.heads&&(!s.heads.isEmpty&&(s.chain s.len&&Z7 ops bs s listed))
 | .a i r s,listed=>!bs.contains i&&(Z7 ops bs r (listed.setIfInBounds i true)&&Z7 ops bs s listed)
 | .c i r s,listed=>bs.contains i&&(!r.hasQ&&(Z7 ops bs r (listed.setIfInBounds i true)&&Z7 ops bs s listed))
 | .z,_=>true
def Qxk (ops:Array Oper) (p:Px):Bool:=Region.noSelect ops&&(Nat.beq p.len ops.size&&Z7 ops p.brk p (Array.replicate ops.size false))
def BrX (P:Program) [JD P] (n:Nat) (q:Post) (ops:List Oper) (bs:List Nat) (k:Nat) (listed:Array Bool) (ρ:Env) (w:World) (i:Nat):Prop :=
 Zo (JD.j (P:=P)) ops.toArray i (fun a' w'=>∃ S':World->Prop,(bs.contains i=false->Ext w w->S' w'/\∀ x,S' x->Ext w x)/\anyX P ops.toArray (q.Q n) bs (fun listed a w=>Qbt (JD.j (P:=P)) ops.toArray (q.Q n) 0 listed a w) k S' (listed.setIfInBounds i true) a' w') (act n ρ) w
theorem TZ.toX {ops:List Oper} {bs:List Nat} {K:Env->World->Prop} (hsel:Region.noSelect ops.toArray=true) (hK:∀ ρ w,K ρ w->q.norm ρ w) :
  ∀ (p:Px) (listed:Array Bool) (ρ:Env) (w:World),listed.size=ops.toArray.size->Closed ops.toArray listed->Z7 ops.toArray bs p listed=true->TZ P n ops K p ρ w ->
   (p.inChain=false->JM listed ops.toArray.size=p.len->anyX P ops.toArray (q.Q n) bs (fun listed a w=>Qbt (JD.j (P:=P)) ops.toArray (q.Q n) 0 listed a w) p.len (Ext w) listed (act n ρ) w) /\
   (∀ k,p.chain (k+1)=true->JM listed ops.toArray.size=k+1->(∀ i∈p.heads,i∈Region.ready .any ops.toArray listed)->∀ i∈p.heads,BrX P n q ops bs k listed ρ w i)
 | .done,listed,ρ,w,_,_,hok,h=>⟨fun _ _=>⟨by simpa [Z7] using hok,ρ,rfl,hK _ _ h⟩,fun k hc=>by cases hc⟩
 | .p i r,listed,ρ,w,hls,hcl,hok,h=>⟨fun _ hc=>by
  simp only [Z7,Bool.and_eq_true,Bool.not_eq_true'] at hok;obtain ⟨⟨⟨hnc,hf⟩,hr⟩,hrest⟩:=hok;obtain ⟨o,v,hi',hq,ht⟩:=h;have hi:ops.toArray[i]?=some o:=by simpa using hi'
  have him:=(Array.getElem?_eq_some_iff.1 hi).1;have hr:i∈Region.ready .any ops.toArray listed:=by simpa using hr
  have hc':=Jo (listed:=listed) him (by simpa using (mem_ready.1 hr).1);simp only [Px.len] at hc;refine Qiu (Si:=fun _=>True) hi (.inr fun _=>trivial) (Region.noSelect_spec hsel) r.len _ listed _ w hls hcl hc.symm (Region.free_spec hi hf) hr hq.yields trivial (.inr fun _=>trivial) ?_;rw [Ja];exact (TZ.toX hsel hK r _ _ w (by simpa using hls) (hcl.set hr) hrest ht).1 hnc (by omega),fun k hc=>by cases hc⟩
 | .q i r,listed,ρ,w,hls,hcl,hok,h=>⟨fun _ hc=>by
  simp only [Z7,Bool.and_eq_true,List.all_eq_true,Bool.not_eq_true'] at hok;obtain ⟨⟨⟨⟨hnc,hm⟩,hf⟩,hr⟩,hrest⟩:=hok;obtain ⟨o,v,hi',hq,ht⟩:=h;have hi:ops.toArray[i]?=some o:=by simpa using hi'
  have him:=(Array.getElem?_eq_some_iff.1 hi).1;have hr:i∈Region.ready .any ops.toArray listed:=by simpa using hr
  have hc':=Jo (listed:=listed) him (by simpa using (mem_ready.1 hr).1);simp only [Px.len] at hc;refine Qiu (Si:=Ext w) hi (.inl hm) (Region.noSelect_spec hsel) r.len (Ext w) listed _ w hls hcl hc.symm (Region.free_spec hi hf) hr hq.yields (Chg.refl _ _) (.inl ⟨Chg.refl _ _,fun _ h=>h⟩) ?_;rw [Ja];exact (TZ.toX hsel hK r _ _ w (by simpa using hls) (hcl.set hr) hrest ht).1 hnc (by omega),fun k hc=>by cases hc⟩
 | .m s,listed,ρ,w,hls,hcl,hok,h=>⟨fun _ hc=>by
  simp only [Z7,Bool.and_eq_true,beq_iff_eq,Bool.not_eq_true'] at hok;obtain ⟨hr,hne,hch,hok⟩:=hok;have hh:=(TZ.toX hsel hK s listed ρ w hls hcl hok h).2;simp only [Px.len] at hc ⊢;cases hl:s.len with
  | zero =>
   exfalso;cases s with
   | a i r s=>simp [Px.len] at hl
   | c i r s=>simp [Px.len] at hl
   | _=>simp [Px.heads] at hne
  | succ k =>
   rw [hl] at hch hc;refine ⟨fun e=>by rw [hr] at e;rw [e] at hne;simp at hne,fun i hi=>?_⟩;exact hh k hch hc (fun i hi=>by rw [hr];exact hi) i (by rw [<-hr];exact hi),fun k hc=>by cases hc⟩
 | .a i r s,listed,ρ,w,hls,hcl,hok,h=>⟨fun hc=>(by cases hc),fun k hc hu hrd j hj=>by
  simp only [Z7,Bool.and_eq_true,Bool.not_eq_true'] at hok;obtain ⟨hnb,hokr,hoks⟩:=hok;simp only [Px.chain,Bool.and_eq_true,Bool.not_eq_true',Nat.beq_eq] at hc;obtain ⟨hl,hnc,hcs⟩:=hc;obtain ⟨⟨o,hi',hs⟩,h2⟩:=h;rcases List.mem_cons.1 hj with rfl | hj
  ·have hi:ops.toArray[j]?=some o:=by simpa using hi'
   have hr':=hrd j (List.mem_cons_self ..);have hc':=Jo (listed:=listed) (Array.getElem?_eq_some_iff.1 hi).1 (by simpa using (mem_ready.1 hr').1);refine hs.toOp hi fun ρ w' h'=>⟨Ext w',fun _ _=>⟨Chg.refl _ _,fun _ hx=>Chg.trans h'.1 hx⟩,?_⟩;have:=(TZ.toX hsel hK r _ ρ w' (by simpa using hls) (hcl.set hr') hokr h'.2).1 hnc (by omega);rwa [show r.len=k by omega] at this
  ·exact (TZ.toX hsel hK s listed ρ w hls hcl hoks h2).2 k hcs hu (fun i hi=>hrd i (List.mem_cons_of_mem _ hi)) j hj⟩
 | .c i r s,listed,ρ,w,hls,hcl,hok,h=>⟨fun hc=>(by cases hc),fun k hc hu hrd j hj=>by
  simp only [Z7,Bool.and_eq_true,Bool.not_eq_true'] at hok;obtain ⟨hib,hnq,hokr,hoks⟩:=hok;simp only [Px.chain,Bool.and_eq_true,Bool.not_eq_true',Nat.beq_eq] at hc;obtain ⟨hl,hnc,hcs⟩:=hc;obtain ⟨⟨o,hi',hs⟩,h2⟩:=h;rcases List.mem_cons.1 hj with rfl | hj
  ·have hi:ops.toArray[j]?=some o:=by simpa using hi'
   have hr':=hrd j (List.mem_cons_self ..);have hc':=Jo (listed:=listed) (Array.getElem?_eq_some_iff.1 hi).1 (by simpa using (mem_ready.1 hr').1);refine hs.toOp hi fun ρ w' h'=>⟨Ext w',fun hb=>(by rw [hib] at hb;cases hb),?_⟩;have:=(TZ.toX hsel hK r _ ρ w' (by simpa using hls) (hcl.set hr') hokr h').1 hnc (by omega);rwa [show r.len=k by omega] at this
  ·exact (TZ.toX hsel hK s listed ρ w hls hcl hoks h2).2 k hcs hu (fun i hi=>hrd i (List.mem_cons_of_mem _ hi)) j hj⟩
 | .z,listed,ρ,w,_,_,_,_=>⟨fun hc=>(by cases hc),fun _ _ _ _ i hi=>(by cases hi)⟩

theorem XK {id:Nat} {ops:List Oper} (hm:P.follows .mixedOrders=true) (p:Px) (hok:Qxk ops.toArray p=true) (hnc:p.inChain=false) (h:∀ w1,Ext w w1->TZ P n ops q.norm p ρ w1):WC P n (.region id ops.toArray true) q ρ w:=by
 simp only [Qxk,Bool.and_eq_true] at hok;obtain ⟨hsel,hl,hp⟩:=hok;have hl:p.len=ops.toArray.size:=by simpa [Nat.beq_eq] using hl
 refine Qzv hm ?_;have h1:=(TZ.toX (q:=q) hsel (fun _ _ h=>h) p (Array.replicate ops.toArray.size false) ρ { w with drawn:=w.drawn+1 } (by simp) (Closed.none _ _) hp (h _ (Ext.drew w))).1 hnc (by rw [Qsm _ _ (Nat.le_refl _),hl]);have h2:=anyX.toAny (fun _ _ _ h=>h) p.len _ _ _ _ h1;rw [hl] at h2;exact h2

section
variable {K:Env->World->Prop} {ops:List Oper} {o:Oper} {i:Nat} {r s:Px} {v:Value}
theorem Q9 (h:K ρ w):TZ P n ops K .done ρ w:=h
theorem Qg (hi:ops[i]?=some o) (hw:X0 ops.toArray o n ρ=true) (hy:∀ w',Yl P n ρ o w' v) (h:TZ P n ops K r (Xu ρ o.dst v) w):TZ P n ops K (.p i r) ρ w :=
 ⟨o,v,hi,.inl ⟨hw,fun w' _=>hy w'⟩,h⟩
theorem QT (hi:ops[i]?=some o) (hw:X0 ops.toArray o n ρ=true) (hy:∀ w',Ext w w'->Yl P n ρ o w' v) (h:TZ P n ops K r (Xu ρ o.dst v) w):TZ P n ops K (.q i r) ρ w :=
 ⟨o,v,hi,.inl ⟨hw,hy⟩,h⟩
theorem XY (b:Bool) (hi:ops[i]?=some o) (hw:X0 ops.toArray o n ρ=b) (hy:∀ w',b=true->Yl P n ρ o w' v) (h:TZ P n ops K r (Xu ρ o.dst (gd b v)) w):TZ P n ops K (.p i r) ρ w:=by
 cases b with
 | true=>rw [Qp rfl] at h;exact Qg hi hw (fun w'=>hy w' rfl) h
 | false=>rw [Qgj rfl] at h;exact ⟨o,undef,hi,.inr ⟨hw,rfl⟩,h⟩
theorem ZC (b:Bool) (hi:ops[i]?=some o) (hw:X0 ops.toArray o n ρ=b) (hy:∀ w',Ext w w'->b=true->Yl P n ρ o w' v) (h:TZ P n ops K r (Xu ρ o.dst (gd b v)) w):TZ P n ops K (.q i r) ρ w:=by
 cases b with
 | true=>rw [Qp rfl] at h;exact QT hi hw (fun w' hS=>hy w' hS rfl) h
 | false=>rw [Qgj rfl] at h;exact ⟨o,undef,hi,.inr ⟨hw,rfl⟩,h⟩
theorem Yj (h:TZ P n ops K s ρ w):TZ P n ops K (.m s) ρ w:=h
theorem Yf (h:∃ o,ops[i]?=some o/\Stp P n ops.toArray o ρ w (fun ρ' w'=>Ext w w'/\TZ P n ops K r ρ' w')) (h2:TZ P n ops K s ρ w):TZ P n ops K (.a i r s) ρ w:=⟨h,h2⟩
theorem QAj (h:∃ o,ops[i]?=some o/\Stp P n ops.toArray o ρ w (fun ρ' w'=>TZ P n ops K r ρ' w')) (h2:TZ P n ops K s ρ w):TZ P n ops K (.c i r s) ρ w:=⟨h,h2⟩
theorem Qaf (hi:ops[i]?=some o) (hw:X0 ops.toArray o n ρ=false) (h:TZ P n ops K r (Xu ρ o.dst undef) w):TZ P n ops K (.p i r) ρ w:=⟨o,undef,hi,.inr ⟨hw,rfl⟩,h⟩
theorem Qir (hi:ops[i]?=some o) (hw:X0 ops.toArray o n ρ=false) (h:TZ P n ops K r (Xu ρ o.dst undef) w):TZ P n ops K (.q i r) ρ w:=⟨o,undef,hi,.inr ⟨hw,rfl⟩,h⟩
theorem YK (h:∃ o,ops[i]?=some o/\Stp P n ops.toArray o ρ w (fun ρ' w'=>Ext w w'/\TZ P n ops K r ρ' w')):TZ P n ops K (.a i r .z) ρ w:=⟨h,trivial⟩
theorem Qfq (h:∃ o,ops[i]?=some o/\Stp P n ops.toArray o ρ w (fun ρ' w'=>TZ P n ops K r ρ' w')):TZ P n ops K (.c i r .z) ρ w:=⟨h,trivial⟩
theorem QI (h:∃ o,ops[i]?=some o/\Stp P n ops.toArray o ρ w (fun ρ' w'=>Ext w w'/\TZ P n ops K r ρ' w')):TZ P n ops K (.m (.a i r .z)) ρ w:=⟨h,trivial⟩
theorem XI (h:∃ o,ops[i]?=some o/\Stp P n ops.toArray o ρ w (fun ρ' w'=>TZ P n ops K r ρ' w')):TZ P n ops K (.m (.c i r .z)) ρ w:=⟨h,trivial⟩
theorem QD (hi:ops[i]?=some o) (hw:X0 ops.toArray o n ρ=true) (h:Eff P o n ρ w (fun v w'=>Ext w w'/\TZ P n ops K r (Xu ρ o.dst v) w')):∃ o,ops[i]?=some o/\Stp P n ops.toArray o ρ w (fun ρ' w'=>Ext w w'/\TZ P n ops K r ρ' w') :=
 ⟨o,hi,by unfold Stp;rw [if_pos hw];exact h⟩
theorem Xz (hi:ops[i]?=some o) (hw:X0 ops.toArray o n ρ=true) (h:Eff P o n ρ w (fun v w'=>TZ P n ops K r (Xu ρ o.dst v) w')):∃ o,ops[i]?=some o/\Stp P n ops.toArray o ρ w (fun ρ' w'=>TZ P n ops K r ρ' w') :=
 ⟨o,hi,by unfold Stp;rw [if_pos hw];exact h⟩
theorem Zl (hi:ops[i]?=some o) (hw:X0 ops.toArray o n ρ=true) (hy:Yl P n ρ o w v) (h:TZ P n ops K r (Xu ρ o.dst v) w):∃ o,ops[i]?=some o/\Stp P n ops.toArray o ρ w (fun ρ' w'=>Ext w w'/\TZ P n ops K r ρ' w') :=
 QD hi hw ⟨hy.1,.inl ⟨v,hy.2,Chg.refl _ _,h⟩⟩
theorem QAk (b:Bool) (V:Value) (hi:ops[i]?=some o) (hw:X0 ops.toArray o n ρ=b) (ht:b=true->Eff P o n ρ w (fun v w'=>v=V/\Ext w w')) (h:∀ w',Ext w w'->Ext w w'/\TZ P n ops K r (Xu ρ o.dst (gd b V)) w') :
  ∃ o,ops[i]?=some o/\Stp P n ops.toArray o ρ w (fun ρ' w'=>Ext w w'/\TZ P n ops K r ρ' w'):=by
 refine ⟨o,hi,?_⟩;unfold Stp;cases b with
 | true =>
  rw [if_pos hw];refine (ht rfl).mono fun v w' ⟨hv,he⟩=>?_;have:=h w' he;rw [Qp rfl] at this;rw [hv];exact this
 | false =>
  rw [if_neg (by simp [hw])];have:=h w (Chg.refl _ _);rw [Qgj rfl] at this;exact this
end
end
end Go.Gw

end
