/- Laws of the walk. Condition: each theorem says its own. -/
import Derived.Test.YtbigilldfhjedaaGreatDoorGwLib5
set_option linter.unusedVariables false
set_option linter.unusedSimpArgs false
set_option linter.unusedSectionVars false
open Array renaming getElem?_eq_some_iff→Ea,replicate→Ee
open Bool renaming and_eq_true→Eb,not_eq_true'→Ec
open Go.Gw.Chg renaming refl→Ed,trans→Ef
section
set_option linter.unusedSectionVars false
namespace Go.Gw
open Go
theorem bnd {α β:Type} {e:Option α} {f:α->Option β} {r:β} {G:Prop} (h:e.bind f=some r) (k:∀ x,e=some x->f x=some r->G):G :=
 have ⟨x,a,b⟩:=XZ h
 k x a b
abbrev Sno:Value:=.slice none 0 0
abbrev Frs (w:World) (v:Value):Prop:=∀ b,Qu v=some b->w.heap.size<=b
theorem X5 {v:Value} {b k:Nat} (h:∀ b,Qu v=some b->k<=b) (l:b < k):Qu v≠some b:=fun e=>Nat.lt_irrefl _ (Nat.lt_of_lt_of_le l (h b e))
section
variable {P:Program} [JD P] {n:Nat} {q:Post} {ρ:Env} {w:World} {T:TypeId}
theorem Yt {w1:World} {v:Value} (e:Ext w w1) (h:∀ b,Qu v=some b->w1.heap.size<=b):Frs w v:=fun b hb=>Nat.le_trans e.size (h b hb)
theorem XR {a:Addr} {cs:List Value} (hat:At w a cs) (hT:Aggr P T cs.length):∀ w1,Rel w w1->(loadVar T a).run P w1=.ok (.agg cs.toArray) w1:=Qck hT hat
theorem Qx {α:Type} {u v z:α} {c:Operand} {x y:Code} {b:Bool} (h:cond b u v=z) (hc:Qm n ρ c=.bool b) (ht:b=true->u=z->WC P n x q ρ w) (hf:b=false->v=z->WC P n y q ρ w):WC P n (.cond c x y) q ρ w :=
 YD hc (fun e=>ht e (Ye e h)) (fun e=>hf e (JY e h))
end
end Go.Gw

end
section
set_option linter.unusedSectionVars false
namespace Go.Gw
open Go
section
variable {P:Program} [JD P] {n:Nat} {q:Post} {ρ:Env} {w:World}

def TX (P:Program) [JD P] (n:Nat) (ops:List Oper) (K:Env->World->Prop):Pl->Env->World->Prop
  | .done,ρ,w=>K ρ w
  | .p i r,ρ,w=>∃ o v,ops[i]?=some o/\Quiet P n ops.toArray (fun _=>True) o ρ v/\TX P n ops K r (Xn ρ o.dst v) w
  | .q i r,ρ,w=>∃ o v,ops[i]?=some o/\Quiet P n ops.toArray (Ext w) o ρ v/\TX P n ops K r (Xn ρ o.dst v) w
  | .e i r,ρ,w=>∃ o,ops[i]?=some o/\Stp P n ops.toArray o ρ w (fun ρ' w'=>Ext w w'/\TX P n ops K r ρ' w')
  | .b i r,ρ,w=>∃ o,ops[i]?=some o/\Stp P n ops.toArray o ρ w (fun ρ' w'=>TX P n ops K r ρ' w')
  | .f i r j s, ρ, w => (∃ o, ops[i]? = some o /\ Stp P n ops.toArray o ρ w (fun ρ' w' => Ext w w' /\ TX P n ops K r ρ' w')) /\
      (∃ o,ops[j]?=some o/\Stp P n ops.toArray o ρ w (fun ρ' w'=>Ext w w'/\TX P n ops K s ρ' w'))

def anyX (P:Program) [JD P] (ops:Array Oper) (Q:Exit->Act->World->Prop) (bs:List Nat) (Kt:Array Bool->Act->World->Prop):Nat->(World->Prop)->Array Bool->Act->World->Prop
 | 0,_,listed,a,w=>Kt listed a w
 | fuel+1,S,listed,a,w=>Region.ready .any ops listed≠[]/\∀ i∈Region.ready .any ops listed,Zz (JD.j (P:=P)) ops i (fun a' w'=>∃ S':World->Prop,(bs.contains i=false->S w->S' w'/\∀ x,S' x->S x)/\anyX P ops Q bs Kt fuel S' (listed.setIfInBounds i true) a' w') a w

theorem anyX.toAny {ops:Array Oper} {Q:Exit->Act->World->Prop} {bs:List Nat} {Kt:Array Bool->Act->World->Prop} (ht:∀ listed a w,Kt listed a w->Qcu (JD.j (P:=P)) ops Q 0 listed a w) :
  ∀ (fuel:Nat) (S:World->Prop) (listed:Array Bool) (a:Act) (w:World),anyX P ops Q bs Kt fuel S listed a w->Qcu (JD.j (P:=P)) ops Q fuel listed a w
 | 0,_,listed,a,w,h=>ht _ _ _ h
 | fuel+1,S,listed,a,w,h=>⟨fun h0=>absurd h0 h.1,fun i hi=>Qni (fun a' w' ⟨S',_,h'⟩=>anyX.toAny ht fuel S' _ a' w' h') (h.2 i hi)⟩

theorem Qkl {ops:Array Oper} {Q:Exit->Act->World->Prop} {bs:List Nat} {Si:World->Prop} {Kt:Array Bool->Act->World->Prop} {i:Nat} {oi:Oper} {v:Value} (hi:ops[i]?=some oi)
    (hb:(∀ b∈bs,Qdf ops ops.size b i=true)\/∀ w,Si w)
    (hsel:∀ (j:Nat) (o:Oper) cs b,ops[j]?=some o->o.op≠.select cs b) :
    ∀ (fuel:Nat) (S:World->Prop) (listed:Array Bool) (a:Act) (w:World),listed.size=ops.size->Closed ops listed->fuel+1=J6 listed ops.size ->
      (∀ j oj,ops[j]?=some oj->j≠i->listed.getD j true=false->(∀ e∈oj.after,Region.binds .any e=true->e.on≠i)->oi.apart ops oj=true) ->
      i∈Region.ready .any ops listed->YldJ P ops Si oi v a->Si w->((S w/\∀ x,S x->Si x)\/∀ w,Si w) ->
      anyX P ops Q bs Kt fuel S (listed.setIfInBounds i true) (a.put oi.dst v) w->anyX P ops Q bs Kt (fuel+1) S listed a w:=by
  have hlt:∀ {j:Nat} {listed:Array Bool},j∈Region.ready .any ops listed->j < ops.size:=fun hj=>by
    grind [Ea,mem_ready]
  have him:=(Ea.1 hi).1;intro fuel
  induction fuel with
  | zero =>
    intro S listed a w hls hcl hcnt _ hr hy hSw hD H;have hiu:=(mem_ready.1 hr).1;refine ⟨fun h=>(by simp_all),fun j hj=>?_⟩;by_cases hji:j=i
    · subst hji;exact hy.op hi hSw ⟨S,fun _ h=>⟨h,fun _ h=>h⟩,H⟩
    grind [QEu,mem_ready]
  | succ fuel ih =>
    intro S listed a w hls hcl hcnt hfree hr hy hSw hD H;have hiu:=(mem_ready.1 hr).1;refine ⟨fun h=>(by simp_all),fun j hj=>?_⟩;by_cases hji:j=i
    · subst hji;exact hy.op hi hSw ⟨S,fun _ h=>⟨h,fun _ h=>h⟩,H⟩
    · have h1:=H.2 j (ready_mono hj hji);obtain ⟨hjun,oj,hoj,hall⟩:=mem_ready.1 hj;have hnot:∀ e∈oj.after,Region.binds .any e=true->e.on≠i:=fun e he hb heq=>by
        grind
      have h2:=QBt hoj (hfree j oj hoj hji hjun hnot) (fun cs b=>hsel i oi cs b hi) (fun cs b=>hsel j oj cs b hoj) hy h1
      have hfree' : ∀ k ok, ops[k]? = some ok -> k ≠ i -> (listed.setIfInBounds j true).getD k true = false ->
          (∀ e∈ok.after,Region.binds .any e=true->e.on≠i)->oi.apart ops ok=true:=fun k ok hk hki hun hno=>hfree k ok hk hki (QYk hun).1 hno
      have hbj:bs.contains j=false\/∀ w,Si w:=by
        rcases hb with hb | hb
        · left;cases hc:bs.contains j with
          | false=>rfl
          | true =>
            exfalso;have hm:=Qsv hcl _ _ _ _ hoj hall (hb j (by grind));simp_all
        simp_all
      refine Qni (fun a' w' h3=>?_) h2;obtain ⟨hy',S',hk',h4⟩:=h3;refine ⟨S',hk',?_⟩;have hD':(S' w'/\∀ x,S' x->Si x)\/∀ w,Si w:=by
        grind
      have hSw':Si w':=by
        grind
      refine ih S' (listed.setIfInBounds j true) a' w' (by grind) (hcl.set hj) (by grind [JP]) hfree' (ready_mono hr (Ne.symm hji)) hy' hSw' hD' ?_
      grind [Array.setIfInBounds_comm]

theorem TX.toX {ops:List Oper} {bs:List Nat} {K:Env->World->Prop} (hsel:Region.noSelect ops.toArray=true) (hK:∀ ρ w,K ρ w->q.norm ρ w) :
  ∀ (p:Pl) (listed:Array Bool) (ρ:Env) (w:World),listed.size=ops.toArray.size->Closed ops.toArray listed->J6 listed ops.toArray.size=p.len->JJ ops.toArray bs p listed=true ->
  TX P n ops K p ρ w->anyX P ops.toArray (q.Q n) bs (fun listed a w=>Qcu (JD.j (P:=P)) ops.toArray (q.Q n) 0 listed a w) p.len (Ext w) listed (act n ρ) w
 | .done,listed,ρ,w,_,_,_,hok,h=>⟨by grind [JJ],ρ,rfl,hK _ _ h⟩
 | .p i r,listed,ρ,w,hls,hcl,hc,hok,h=>by
  simp only [JJ,Eb] at hok;obtain ⟨⟨hf,hr⟩,hrest⟩:=hok;obtain ⟨o,v,hi',hq,ht⟩:=h;have hi:ops.toArray[i]?=some o:=by grind
  have him:=(Ea.1 hi).1;have hr:i∈Region.ready .any ops.toArray listed:=by grind
  have hc':=JP (listed:=listed) him (by grind [mem_ready]);simp only [Pl.len] at hc;refine Qkl (Si:=fun _=>True) hi (.inr fun _=>trivial) (Region.noSelect_spec hsel) r.len (Ext w) listed _ w hls hcl hc.symm (Region.free_spec hi hf) hr hq.yields trivial (.inr fun _=>trivial) ?_;rw [JA];exact TX.toX hsel hK r _ _ w (by grind) (hcl.set hr) (by omega) hrest ht
 | .q i r,listed,ρ,w,hls,hcl,hc,hok,h=>by
  simp only [JJ,Eb,List.all_eq_true] at hok;obtain ⟨⟨⟨hm,hf⟩,hr⟩,hrest⟩:=hok;obtain ⟨o,v,hi',hq,ht⟩:=h;have hi:ops.toArray[i]?=some o:=by grind
  have him:=(Ea.1 hi).1;have hr:i∈Region.ready .any ops.toArray listed:=by grind
  have hc':=JP (listed:=listed) him (by grind [mem_ready]);simp only [Pl.len] at hc;refine Qkl (Si:=Ext w) hi (.inl hm) (Region.noSelect_spec hsel) r.len (Ext w) listed _ w hls hcl hc.symm (Region.free_spec hi hf) hr hq.yields (Ed _ _) (.inl ⟨Ed _ _,fun _ h=>h⟩) ?_;rw [JA];exact TX.toX hsel hK r _ _ w (by grind) (hcl.set hr) (by omega) hrest ht
 | .e i r,listed,ρ,w,hls,hcl,hc,hok,h=>by
  simp only [JJ,Eb,beq_iff_eq] at hok;obtain ⟨hr,hnb,hrest⟩:=hok;obtain ⟨o,hi',hs⟩:=h;have hi:ops.toArray[i]?=some o:=by grind
  have hr':i∈Region.ready .any ops.toArray listed:=by grind
  have hc':=JP (listed:=listed) (Ea.1 hi).1 (by grind [mem_ready]);simp only [Pl.len] at hc;refine ⟨by grind,fun j hj=>?_⟩;have hj:j=i:=by simp_all
  subst hj;exact hs.toOp hi fun ρ w' h'=>⟨Ext w',fun _ _=>⟨Ed _ _,fun _ hx=>Ef h'.1 hx⟩,TX.toX hsel hK r _ _ w' (by grind) (hcl.set hr') (by omega) hrest h'.2⟩
 | .b i r,listed,ρ,w,hls,hcl,hc,hok,h=>by
  simp only [JJ,Eb,beq_iff_eq] at hok;obtain ⟨hr,hib,hnq,hrest⟩:=hok;obtain ⟨o,hi',hs⟩:=h;have hi:ops.toArray[i]?=some o:=by grind
  have hr':i∈Region.ready .any ops.toArray listed:=by grind
  have hc':=JP (listed:=listed) (Ea.1 hi).1 (by grind [mem_ready]);simp only [Pl.len] at hc;refine ⟨by grind,fun j hj=>?_⟩;have hj:j=i:=by simp_all
  subst hj;refine hs.toOp hi fun ρ w' h'=>⟨Ext w',?_,TX.toX hsel hK r _ _ w' (by grind) (hcl.set hr') (by omega) hrest h'⟩;simp_all
 | .f i r j s,listed,ρ,w,hls,hcl,hc,hok,h=>by
  simp only [JJ,Eb,beq_iff_eq] at hok;obtain ⟨hr,hlen,hn1,hn2,hrest,hrest2⟩:=hok;obtain ⟨⟨o,hi',hs⟩,o2,hj',hs2⟩:=h;have hi:ops.toArray[i]?=some o:=by grind
  have hj2:ops.toArray[j]?=some o2:=by grind
  have hri:i∈Region.ready .any ops.toArray listed:=by grind
  have hrj:j∈Region.ready .any ops.toArray listed:=by grind
  have hci:=JP (listed:=listed) (Ea.1 hi).1 (by grind [mem_ready]);have hcj:=JP (listed:=listed) (Ea.1 hj2).1 (by grind [mem_ready]);have hlen:r.len=s.len:=by simp_all
  simp only [Pl.len] at hc;refine ⟨by grind,fun k hk=>?_⟩;rw [hr] at hk;rcases List.mem_cons.1 hk with rfl | hk
  ·exact hs.toOp hi fun ρ w' h'=>⟨Ext w',fun _ _=>⟨Ed _ _,fun _ hx=>Ef h'.1 hx⟩,TX.toX hsel hK r _ _ w' (by grind) (hcl.set hri) (by omega) hrest h'.2⟩
  ·have hk:k=j:=by grind
   subst hk;have:=fun ρ w' (h':Ext w w'/\TX P n ops K s ρ w')=>TX.toX hsel hK s (listed.setIfInBounds k true) ρ w' (by grind) (hcl.set hrj) (by omega) hrest2 h'.2
   refine hs2.toOp hj2 fun ρ w' h'=>⟨Ext w',fun _ _=>⟨Ed _ _,fun _ hx=>Ef h'.1 hx⟩,?_⟩;simp_all

theorem Qpq {id:Nat} {ops:List Oper} (hm:P.follows .mixedOrders=true) (p:Pl) (hok:QCa ops.toArray p=true) (h:∀ w1,Ext w w1->TX P n ops q.norm p ρ w1):WC P n (.region id ops.toArray true) q ρ w:=by
 simp only [QCa,Eb] at hok;obtain ⟨hsel,hl,hp⟩:=hok;have hl:p.len=ops.toArray.size:=by simp_all
 refine QFb hm ?_;have h1:=TX.toX (q:=q) hsel (fun _ _ h=>h) p (Ee ops.toArray.size false) ρ { w with drawn:=w.drawn+1 } (by simp) (Closed.none _ _) (by rw [Qvu _ _ (Nat.le_refl _),hl]) hp (h _ (Ext.drew w))
 grind [anyX.toAny]

section
variable {K:Env->World->Prop} {ops:List Oper} {o:Oper} {i:Nat} {r:Pl} {v:Value}
theorem Qpo (h:K ρ w):TX P n ops K .done ρ w:=h
theorem YA (hi:ops[i]?=some o) (hw:XL ops.toArray o n ρ=true) (hy:∀ w',Yl P n ρ o w' v) (h:TX P n ops K r (Xn ρ o.dst v) w):TX P n ops K (.p i r) ρ w :=
 ⟨o,v,hi,.inl ⟨hw,fun w' _=>hy w'⟩,h⟩
theorem Qdr (hi:ops[i]?=some o) (hw:XL ops.toArray o n ρ=true) (hy:∀ w',Ext w w'->Yl P n ρ o w' v) (h:TX P n ops K r (Xn ρ o.dst v) w):TX P n ops K (.q i r) ρ w :=
 ⟨o,v,hi,.inl ⟨hw,hy⟩,h⟩
theorem QFt (hi:ops[i]?=some o) (hw:XL ops.toArray o n ρ=true) (h:Eff P o n ρ w (fun v w'=>Ext w w'/\TX P n ops K r (Xn ρ o.dst v) w')):TX P n ops K (.e i r) ρ w :=
 ⟨o,hi,by simp_all [if_pos,Stp]⟩
theorem QFs (hi:ops[i]?=some o) (hw:XL ops.toArray o n ρ=true) (h:Eff P o n ρ w (fun v w'=>TX P n ops K r (Xn ρ o.dst v) w')):TX P n ops K (.b i r) ρ w :=
 ⟨o,hi,by simp_all [if_pos,Stp]⟩
end
end
end Go.Gw

end
section
set_option linter.unusedSectionVars false
namespace Go.Gw
open Go
section
variable {P:Program} [JD P] {n:Nat} {q:Post} {ρ:Env} {w:World}

inductive Px where
 | done
 | p (i:Nat) (r:Px)
 | q (i:Nat) (r:Px)
 | m (s:Px)
 | a (i:Nat) (r s:Px)
 | c (i:Nat) (r s:Px)
 | z
def Px.hasQ:Px->Bool
 | .done=>false
 | .p _ r=>r.hasQ
 | .q _ _=>true
 | .m s=>s.hasQ
 | .a _ r s=>r.hasQ||s.hasQ
 | .c _ r s=>r.hasQ||s.hasQ
 | .z=>false
def Px.len:Px->Nat
 | .done=>0
 | .p _ r=>r.len+1
 | .q _ r=>r.len+1
 | .m s=>s.len
 | .a _ r _=>r.len+1
 | .c _ r _=>r.len+1
 | .z=>0
def Px.brk:Px->List Nat
 | .done=>[]
 | .p _ r=>r.brk
 | .q _ r=>r.brk
 | .m s=>s.brk
 | .a _ r s=>r.brk++s.brk
 | .c i r s=>i::(r.brk++s.brk)
 | .z=>[]
def Px.heads:Px->List Nat
 | .a i _ s=>i::s.heads
 | .c i _ s=>i::s.heads
 | _=>[]
def Px.inChain:Px->Bool
 | .a _ _ _=>true
 | .c _ _ _=>true
 | .z=>true
 | _=>false
def Px.chain (k:Nat):Px->Bool
 | .a _ r s=>Nat.beq (r.len+1) k&&(!r.inChain&&s.chain k)
 | .c _ r s=>Nat.beq (r.len+1) k&&(!r.inChain&&s.chain k)
 | .z=>true
 | _=>false
def TZ (P:Program) [JD P] (n:Nat) (ops:List Oper) (K:Env->World->Prop):Px->Env->World->Prop
 | .done,ρ,w=>K ρ w
 | .p i r,ρ,w=>∃ o v,ops[i]?=some o/\Quiet P n ops.toArray (fun _=>True) o ρ v/\TZ P n ops K r (Xn ρ o.dst v) w
 | .q i r,ρ,w=>∃ o v,ops[i]?=some o/\Quiet P n ops.toArray (Ext w) o ρ v/\TZ P n ops K r (Xn ρ o.dst v) w
 | .m s,ρ,w=>TZ P n ops K s ρ w
 | .a i r s,ρ,w=>(∃ o,ops[i]?=some o/\Stp P n ops.toArray o ρ w (fun ρ' w'=>Ext w w'/\TZ P n ops K r ρ' w'))/\TZ P n ops K s ρ w
 | .c i r s,ρ,w=>(∃ o,ops[i]?=some o/\Stp P n ops.toArray o ρ w (fun ρ' w'=>TZ P n ops K r ρ' w'))/\TZ P n ops K s ρ w
 | .z,_,_=>True
def Jx (ops:Array Oper) (bs:List Nat):Px->Array Bool->Bool
 | .done,listed=>(Region.ready .any ops listed).isEmpty
 | .p i r,listed=>!r.inChain&&Region.free .any ops listed i&&(Region.ready .any ops listed).contains i&&Jx ops bs r (listed.setIfInBounds i true)
 | .q i r,listed=>!r.inChain&&(bs.all fun b=>Qdf ops ops.size b i)&&Region.free .any ops listed i&&(Region.ready .any ops listed).contains i&&Jx ops bs r (listed.setIfInBounds i true)
 | .m s,listed=>Region.ready .any ops listed == s.heads&&(!s.heads.isEmpty&&(s.chain s.len&&Jx ops bs s listed))
 | .a i r s,listed=>!bs.contains i&&(Jx ops bs r (listed.setIfInBounds i true)&&Jx ops bs s listed)
 | .c i r s,listed=>bs.contains i&&(!r.hasQ&&(Jx ops bs r (listed.setIfInBounds i true)&&Jx ops bs s listed))
 | .z,_=>true
def QCb (ops:Array Oper) (p:Px):Bool:=Region.noSelect ops&&(Nat.beq p.len ops.size&&Jx ops p.brk p (Ee ops.size false))
def BrX (P:Program) [JD P] (n:Nat) (q:Post) (ops:List Oper) (bs:List Nat) (k:Nat) (listed:Array Bool) (ρ:Env) (w:World) (i:Nat):Prop :=
 Zz (JD.j (P:=P)) ops.toArray i (fun a' w'=>∃ S':World->Prop,(bs.contains i=false->Ext w w->S' w'/\∀ x,S' x->Ext w x)/\anyX P ops.toArray (q.Q n) bs (fun listed a w=>Qcu (JD.j (P:=P)) ops.toArray (q.Q n) 0 listed a w) k S' (listed.setIfInBounds i true) a' w') (act n ρ) w
theorem TZ.toX {ops:List Oper} {bs:List Nat} {K:Env->World->Prop} (hsel:Region.noSelect ops.toArray=true) (hK:∀ ρ w,K ρ w->q.norm ρ w) :
  ∀ (p:Px) (listed:Array Bool) (ρ:Env) (w:World),listed.size=ops.toArray.size->Closed ops.toArray listed->Jx ops.toArray bs p listed=true->TZ P n ops K p ρ w ->
   (p.inChain=false->J6 listed ops.toArray.size=p.len->anyX P ops.toArray (q.Q n) bs (fun listed a w=>Qcu (JD.j (P:=P)) ops.toArray (q.Q n) 0 listed a w) p.len (Ext w) listed (act n ρ) w) /\
   (∀ k,p.chain (k+1)=true->J6 listed ops.toArray.size=k+1->(∀ i∈p.heads,i∈Region.ready .any ops.toArray listed)->∀ i∈p.heads,BrX P n q ops bs k listed ρ w i)
 | .done,listed,ρ,w,_,_,hok,h=>⟨fun _ _=>⟨by grind [Jx],ρ,rfl,hK _ _ h⟩,fun k hc=>by cases hc⟩
 | .p i r,listed,ρ,w,hls,hcl,hok,h=>⟨fun _ hc=>by
  simp only [Jx,Eb,Ec] at hok;obtain ⟨⟨⟨hnc,hf⟩,hr⟩,hrest⟩:=hok;obtain ⟨o,v,hi',hq,ht⟩:=h;have hi:ops.toArray[i]?=some o:=by grind
  have him:=(Ea.1 hi).1;have hr:i∈Region.ready .any ops.toArray listed:=by grind
  have hc':=JP (listed:=listed) him (by grind [mem_ready]);simp only [Px.len] at hc;refine Qkl (Si:=fun _=>True) hi (.inr fun _=>trivial) (Region.noSelect_spec hsel) r.len _ listed _ w hls hcl hc.symm (Region.free_spec hi hf) hr hq.yields trivial (.inr fun _=>trivial) ?_;rw [JA];exact (TZ.toX hsel hK r _ _ w (by grind) (hcl.set hr) hrest ht).1 hnc (by omega),fun k hc=>by cases hc⟩
 | .q i r,listed,ρ,w,hls,hcl,hok,h=>⟨fun _ hc=>by
  simp only [Jx,Eb,List.all_eq_true,Ec] at hok;obtain ⟨⟨⟨⟨hnc,hm⟩,hf⟩,hr⟩,hrest⟩:=hok;obtain ⟨o,v,hi',hq,ht⟩:=h;have hi:ops.toArray[i]?=some o:=by grind
  have him:=(Ea.1 hi).1;have hr:i∈Region.ready .any ops.toArray listed:=by grind
  have hc':=JP (listed:=listed) him (by grind [mem_ready]);simp only [Px.len] at hc;refine Qkl (Si:=Ext w) hi (.inl hm) (Region.noSelect_spec hsel) r.len (Ext w) listed _ w hls hcl hc.symm (Region.free_spec hi hf) hr hq.yields (Ed _ _) (.inl ⟨Ed _ _,fun _ h=>h⟩) ?_;rw [JA];exact (TZ.toX hsel hK r _ _ w (by grind) (hcl.set hr) hrest ht).1 hnc (by omega),fun k hc=>by cases hc⟩
 | .m s,listed,ρ,w,hls,hcl,hok,h=>⟨fun _ hc=>by
  simp only [Jx,Eb,beq_iff_eq,Ec] at hok;obtain ⟨hr,hne,hch,hok⟩:=hok;have hh:=(TZ.toX hsel hK s listed ρ w hls hcl hok h).2;simp only [Px.len] at hc ⊢;cases hl:s.len with
  | zero =>
   exfalso;cases s with
   | a i r s=>trivial
   | c i r s=>trivial
   | _=>trivial
  | succ k =>
   rw [hl] at hch hc;refine ⟨fun e=>by simp_all,fun i hi=>?_⟩;exact hh k hch hc (fun i hi=>by simp_all) i (by simp_all),fun k hc=>by cases hc⟩
 | .a i r s,listed,ρ,w,hls,hcl,hok,h=>⟨fun hc=>(by cases hc),fun k hc hu hrd j hj=>by
  simp only [Jx,Eb,Ec] at hok;obtain ⟨hnb,hokr,hoks⟩:=hok;simp only [Px.chain,Eb,Ec,Nat.beq_eq] at hc;obtain ⟨hl,hnc,hcs⟩:=hc;obtain ⟨⟨o,hi',hs⟩,h2⟩:=h;rcases List.mem_cons.1 hj with rfl | hj
  ·have hi:ops.toArray[j]?=some o:=by grind
   have hr':=hrd j (List.mem_cons_self ..);have hc':=JP (listed:=listed) (Ea.1 hi).1 (by grind [mem_ready]);refine hs.toOp hi fun ρ w' h'=>⟨Ext w',fun _ _=>⟨Ed _ _,fun _ hx=>Ef h'.1 hx⟩,?_⟩;have:=(TZ.toX hsel hK r _ ρ w' (by grind) (hcl.set hr') hokr h'.2).1 hnc (by omega);simp_all
  ·exact (TZ.toX hsel hK s listed ρ w hls hcl hoks h2).2 k hcs hu (fun i hi=>hrd i (List.mem_cons_of_mem _ hi)) j hj⟩
 | .c i r s,listed,ρ,w,hls,hcl,hok,h=>⟨fun hc=>(by cases hc),fun k hc hu hrd j hj=>by
  simp only [Jx,Eb,Ec] at hok;obtain ⟨hib,hnq,hokr,hoks⟩:=hok;simp only [Px.chain,Eb,Ec,Nat.beq_eq] at hc;obtain ⟨hl,hnc,hcs⟩:=hc;obtain ⟨⟨o,hi',hs⟩,h2⟩:=h;rcases List.mem_cons.1 hj with rfl | hj
  ·have hi:ops.toArray[j]?=some o:=by grind
   have hr':=hrd j (List.mem_cons_self ..);have hc':=JP (listed:=listed) (Ea.1 hi).1 (by grind [mem_ready]);refine hs.toOp hi fun ρ w' h'=>⟨Ext w',fun hb=>(by simp_all),?_⟩;have:=(TZ.toX hsel hK r _ ρ w' (by grind) (hcl.set hr') hokr h').1 hnc (by omega);simp_all
  ·exact (TZ.toX hsel hK s listed ρ w hls hcl hoks h2).2 k hcs hu (fun i hi=>hrd i (List.mem_cons_of_mem _ hi)) j hj⟩
 | .z,listed,ρ,w,_,_,_,_=>⟨fun hc=>(by cases hc),fun _ _ _ _ i hi=>(by cases hi)⟩

theorem XK {id:Nat} {ops:List Oper} (hm:P.follows .mixedOrders=true) (p:Px) (hok:QCb ops.toArray p=true) (hnc:p.inChain=false) (h:∀ w1,Ext w w1->TZ P n ops q.norm p ρ w1):WC P n (.region id ops.toArray true) q ρ w:=by
 simp only [QCb,Eb] at hok;obtain ⟨hsel,hl,hp⟩:=hok;have hl:p.len=ops.toArray.size:=by simp_all
 refine QFb hm ?_;have h1:=(TZ.toX (q:=q) hsel (fun _ _ h=>h) p (Ee ops.toArray.size false) ρ { w with drawn:=w.drawn+1 } (by simp) (Closed.none _ _) hp (h _ (Ext.drew w))).1 hnc (by rw [Qvu _ _ (Nat.le_refl _),hl])
 grind [anyX.toAny]

section
variable {K:Env->World->Prop} {ops:List Oper} {o:Oper} {i:Nat} {r s:Px} {v:Value}
theorem Xl (h:K ρ w):TZ P n ops K .done ρ w:=h
theorem QD (hi:ops[i]?=some o) (hw:XL ops.toArray o n ρ=true) (hy:∀ w',Yl P n ρ o w' v) (h:TZ P n ops K r (Xn ρ o.dst v) w):TZ P n ops K (.p i r) ρ w :=
 ⟨o,v,hi,.inl ⟨hw,fun w' _=>hy w'⟩,h⟩
theorem ZR (hi:ops[i]?=some o) (hw:XL ops.toArray o n ρ=true) (hy:∀ w',Ext w w'->Yl P n ρ o w' v) (h:TZ P n ops K r (Xn ρ o.dst v) w):TZ P n ops K (.q i r) ρ w :=
 ⟨o,v,hi,.inl ⟨hw,hy⟩,h⟩
theorem Qds (b:Bool) (hi:ops[i]?=some o) (hw:XL ops.toArray o n ρ=b) (hy:∀ w',b=true->Yl P n ρ o w' v) (h:TZ P n ops K r (Xn ρ o.dst (gd b v)) w):TZ P n ops K (.p i r) ρ w:=by
 cases b with
 | true=>grind [QD,Qo]
 | false=>rw [Qht rfl] at h;exact ⟨o,undef,hi,.inr ⟨hw,rfl⟩,h⟩
theorem Qpp (b:Bool) (hi:ops[i]?=some o) (hw:XL ops.toArray o n ρ=b) (hy:∀ w',Ext w w'->b=true->Yl P n ρ o w' v) (h:TZ P n ops K r (Xn ρ o.dst (gd b v)) w):TZ P n ops K (.q i r) ρ w:=by
 cases b with
 | true=>grind [ZR,Qo]
 | false=>rw [Qht rfl] at h;exact ⟨o,undef,hi,.inr ⟨hw,rfl⟩,h⟩
theorem Zm (h:TZ P n ops K s ρ w):TZ P n ops K (.m s) ρ w:=h
theorem Za (h:∃ o,ops[i]?=some o/\Stp P n ops.toArray o ρ w (fun ρ' w'=>Ext w w'/\TZ P n ops K r ρ' w')) (h2:TZ P n ops K s ρ w):TZ P n ops K (.a i r s) ρ w:=⟨h,h2⟩
theorem QFu (h:∃ o,ops[i]?=some o/\Stp P n ops.toArray o ρ w (fun ρ' w'=>TZ P n ops K r ρ' w')) (h2:TZ P n ops K s ρ w):TZ P n ops K (.c i r s) ρ w:=⟨h,h2⟩
theorem Qbb (hi:ops[i]?=some o) (hw:XL ops.toArray o n ρ=false) (h:TZ P n ops K r (Xn ρ o.dst undef) w):TZ P n ops K (.p i r) ρ w:=⟨o,undef,hi,.inr ⟨hw,rfl⟩,h⟩
theorem Qkg (hi:ops[i]?=some o) (hw:XL ops.toArray o n ρ=false) (h:TZ P n ops K r (Xn ρ o.dst undef) w):TZ P n ops K (.q i r) ρ w:=⟨o,undef,hi,.inr ⟨hw,rfl⟩,h⟩
theorem Zs (h:∃ o,ops[i]?=some o/\Stp P n ops.toArray o ρ w (fun ρ' w'=>Ext w w'/\TZ P n ops K r ρ' w')):TZ P n ops K (.a i r .z) ρ w:=⟨h,trivial⟩
theorem QFv (h:∃ o,ops[i]?=some o/\Stp P n ops.toArray o ρ w (fun ρ' w'=>TZ P n ops K r ρ' w')):TZ P n ops K (.c i r .z) ρ w:=⟨h,trivial⟩
theorem QK (h:∃ o,ops[i]?=some o/\Stp P n ops.toArray o ρ w (fun ρ' w'=>Ext w w'/\TZ P n ops K r ρ' w')):TZ P n ops K (.m (.a i r .z)) ρ w:=⟨h,trivial⟩
theorem X2 (h:∃ o,ops[i]?=some o/\Stp P n ops.toArray o ρ w (fun ρ' w'=>TZ P n ops K r ρ' w')):TZ P n ops K (.m (.c i r .z)) ρ w:=⟨h,trivial⟩
theorem Z5 (hi:ops[i]?=some o) (hw:XL ops.toArray o n ρ=true) (h:Eff P o n ρ w (fun v w'=>Ext w w'/\TZ P n ops K r (Xn ρ o.dst v) w')):∃ o,ops[i]?=some o/\Stp P n ops.toArray o ρ w (fun ρ' w'=>Ext w w'/\TZ P n ops K r ρ' w') :=
 ⟨o,hi,by simp_all [if_pos,Stp]⟩
theorem Qex (hi:ops[i]?=some o) (hw:XL ops.toArray o n ρ=true) (h:Eff P o n ρ w (fun v w'=>TZ P n ops K r (Xn ρ o.dst v) w')):∃ o,ops[i]?=some o/\Stp P n ops.toArray o ρ w (fun ρ' w'=>TZ P n ops K r ρ' w') :=
 ⟨o,hi,by simp_all [if_pos,Stp]⟩
theorem Qkh (hi:ops[i]?=some o) (hw:XL ops.toArray o n ρ=true) (hy:Yl P n ρ o w v) (h:TZ P n ops K r (Xn ρ o.dst v) w):∃ o,ops[i]?=some o/\Stp P n ops.toArray o ρ w (fun ρ' w'=>Ext w w'/\TZ P n ops K r ρ' w') :=
 Z5 hi hw ⟨hy.1,.inl ⟨v,hy.2,Ed _ _,h⟩⟩
theorem Qwl (b:Bool) (V:Value) (hi:ops[i]?=some o) (hw:XL ops.toArray o n ρ=b) (ht:b=true->Eff P o n ρ w (fun v w'=>v=V/\Ext w w')) (h:∀ w',Ext w w'->Ext w w'/\TZ P n ops K r (Xn ρ o.dst (gd b V)) w') :
  ∃ o,ops[i]?=some o/\Stp P n ops.toArray o ρ w (fun ρ' w'=>Ext w w'/\TZ P n ops K r ρ' w'):=by
 refine ⟨o,hi,?_⟩;unfold Stp;cases b with
 | true =>
  rw [if_pos hw];refine (ht rfl).mono fun v w' ⟨hv,he⟩=>?_
  grind [Qo]
 | false =>
  simp_all [Qht,Ed,if_neg]
end
end
end Go.Gw

end
section
set_option linter.unusedSectionVars false
namespace Go.Gw
open Go
section
variable {P:Program} [JD P] {n:Nat} {q:Post} {ρ:Env} {w:World} {d:Option Nat} {t T:TypeId} {p:String} {af:Array Edge} {gu:Option (Nat×Bool)} {x:Operand} {v:Value} {b:Bool}
section
variable {ops:Array Oper} {K:Env->World->Prop} {os:List Oper} {o:Oper} {e:Op}
theorem Qa (hy:Yl P n ρ ⟨d,e,t,p,af,none⟩ w v) (h:T0 P n ops K os (Xn ρ d v) w):T0 P n ops K (⟨d,e,t,p,af,none⟩::os) ρ w:=Xg v hy h
theorem Qc (hx:Qm n ρ x=v) (h:T0 P n ops K os (Xn ρ d v) w):T0 P n ops K (⟨d,.move x,t,p,af,none⟩::os) ρ w:=Q1 v hx h
theorem Qh (hx:Qm n ρ x=v) (h:T0 P n ops K os (Xn ρ d v) w):T0 P n ops K (⟨d,.assign x,t,p,af,none⟩::os) ρ w:=XC v hx h
theorem QM {id:Nat} {c:Code} (hx:Qm n ρ x=v) (h:WC P n c q (Xn ρ d v) w):WC P n (.seq (.region id #[⟨d,.assign x,t,p,af,none⟩] false) c) q ρ w:=JW v hx h
theorem Qkk {id:Nat} {c:Code} (hx:Qm n ρ x=v) (h:WC P n c q (Xn ρ d v) w):WC P n (.seq (.region id #[⟨d,.move x,t,p,af,none⟩] false) c) q ρ w:=QFy v hx h
theorem Qv (hw:XL ops o n ρ=b) (hy:b=true->Yl P n ρ o w v) (h:T0 P n ops K os (Xn ρ o.dst (gd b v)) w):T0 P n ops K (o::os) ρ w:=Zl b hw hy h
theorem QN {j d:Nat} (h:(o.guard,(ops[j]?).bind (·.dst),Nat.blt d n,ρ d)=(some (j,true),some d,true,.bool b)):XL ops o n ρ=b:=by
 simp only [Prod.mk.injEq] at h;exact QZa h.1 h.2.1 h.2.2.1 h.2.2.2
theorem QJ {j d:Nat} (h:(o.guard,(ops[j]?).bind (·.dst),Nat.blt d n,ρ d)=(some (j,false),some d,true,.bool b)):XL ops o n ρ=!b:=by
 simp only [Prod.mk.injEq] at h;exact Yx h.1 h.2.1 h.2.2.1 h.2.2.2
theorem Qn {fs:Array Field} {i:Nat} {f:Field} {a:Addr} (off:Nat) (hu:P.underlying T=some (.struct fs)) (hs:∃ k,Xi P f.type (k+1)) (hx:Qm n ρ x=.pointer (some a)) (hf:(fs[i]?,f.offset,v)=(some f,off,.pointer (some (a.add off)))):Yl P n ρ ⟨d,.fieldAddr T x i,t,p,af,gu⟩ w v:=by
 simp only [Prod.mk.injEq] at hf;exact ZB off hu hf.1 hf.2.1 hs hx hf.2.2
end
section
variable {K:Env->World->Prop} {ops:List Oper} {o:Oper} {i:Nat} {r:Px}
theorem Qaj (hi:ops[i]?=some o) (hw:XL ops.toArray o n ρ=b) (hy:∀ w',b=true->Yl P n ρ o w' v) (h:TZ P n ops K r (Xn ρ o.dst (gd b v)) w):TZ P n ops K (.p i r) ρ w:=Qds b hi hw hy h
theorem Qha (hi:ops[i]?=some o) (hw:XL ops.toArray o n ρ=b) (hy:∀ w',Ext w w'->b=true->Yl P n ρ o w' v) (h:TZ P n ops K r (Xn ρ o.dst (gd b v)) w):TZ P n ops K (.q i r) ρ w:=Qpp b hi hw hy h
theorem Qy (hi:(ops[i]?,XL ops.toArray o n ρ)=(some o,true)) (hy:∀ w',Yl P n ρ o w' v) (h:TZ P n ops K r (Xn ρ o.dst v) w):TZ P n ops K (.p i r) ρ w:=QD (congrArg (·.1) hi) (congrArg (·.2) hi) hy h
theorem QX (hi:(ops[i]?,XL ops.toArray o n ρ)=(some o,true)) (hy:∀ w',Ext w w'->Yl P n ρ o w' v) (h:TZ P n ops K r (Xn ρ o.dst v) w):TZ P n ops K (.q i r) ρ w:=ZR (congrArg (·.1) hi) (congrArg (·.2) hi) hy h
theorem QE (hi:(ops[i]?,XL ops.toArray o n ρ)=(some o,true)) (h:Eff P o n ρ w (fun v w'=>Ext w w'/\TZ P n ops K r (Xn ρ o.dst v) w')):∃ o,ops[i]?=some o/\Stp P n ops.toArray o ρ w (fun ρ' w'=>Ext w w'/\TZ P n ops K r ρ' w'):=Z5 (congrArg (·.1) hi) (congrArg (·.2) hi) h
theorem Yi (hi:(ops[i]?,XL ops.toArray o n ρ)=(some o,true)) (h:Eff P o n ρ w (fun v w'=>TZ P n ops K r (Xn ρ o.dst v) w')):∃ o,ops[i]?=some o/\Stp P n ops.toArray o ρ w (fun ρ' w'=>TZ P n ops K r ρ' w'):=Qex (congrArg (·.1) hi) (congrArg (·.2) hi) h
end
theorem Zc (v:Value) {w w':World} (h:Ext w w'):Chg [v] w w':=h.mono (fun _ h=>by cases h)
end
end Go.Gw

end
