/- From a row's reading of the arguments to what the walks ask of them. No condition. -/
import Derived.Test.YtkdfngdamkbcnaaGreatDoorGwLib5
import Derived.ChangeArms
import Derived.OpenShut
import Derived.RowKit
import Derived.DataReads
set_option linter.unusedVariables false
set_option linter.unusedSimpArgs false
set_option linter.unusedSectionVars false
namespace Go.Gw
open Go

def ZD (P:Program) (T:TypeId) (α:Type) [Rep α] (V:α->Prop):Prop :=
 P.cellsOf T=Rep.n α/\∀ {H:Type} (enc:TypeId×Value->H) (w:World) (fuel:Nat) (cs:List Value) (x:DataW H×List MemPlace),
  DataW.trod enc P w 0 (fun _=>true) true fuel T cs=some x->∃ d:α,Rep.rd [] w cs d/\V d

def YK (n:Int):Prop:=-9223372036854775808<=n/\n<=9223372036854775807
theorem QVn {n:Int} (h:(Lit.int .i64 n).wf=true):YK n:=by
 grind [YK,Lit.wf,IntKind.min,IntKind.max,IntKind.signed,IntKind.bits]
theorem QPu {P:Program} {T:TypeId} (ht:P.underlying T=some (.int .i64)) (hc:P.cellsOf T=1):ZD P T Int YK :=
 ⟨hc,fun enc w fuel cs x h=>by
  obtain ⟨n,h1,_,h3⟩:=DataW.trod_int ht h;exact ⟨n,h1,QVn h3⟩⟩
theorem QPv {P:Program} {T:TypeId} (ht:P.underlying T=some .string) (hc:P.cellsOf T=1):ZD P T ByteArray (fun s=>s.size<=maxLen) :=
 ⟨hc,fun enc w fuel cs x h=>by
  obtain ⟨b,h1,_,h3⟩:=DataW.trod_string ht h;exact ⟨b,h1,h3⟩⟩
theorem Qwa {w:World} {a:Addr} {v:Value} (h:w.cell? a=some v):a.spot=none/\∃ cur e fz,w.heap[a.block]?=some (.cells cur e fz)/\cur[a.off]?=some v:=by
 unfold World.cell? at h;split at h
 ·simp_all
 ·cases h
theorem Qwc {α:Type} {p:Nat->α->Prop}:∀ (n:Nat),(∀ i,i < n->∃ v,p i v)->∃ l:List α,l.length=n/\∀ i v,l[i]?=some v->p i v
 | 0,_=>⟨[],rfl,fun i v h=>by simp at h⟩
 | n+1,h=>by
  obtain ⟨l,hl,hp⟩:=Qwc n fun i hi=>h i (by omega)
  obtain ⟨v,hv⟩:=h n (by omega);refine ⟨l++[v],by simp [hl],fun i u hu=>?_⟩
  grind
theorem Qio {P:Program} {T e:TypeId} {α:Type} [Rep α] {V:α->Prop} (ht:P.underlying T=some (.slice e)) (hc:P.cellsOf T=1) (hn:0 < Rep.n α) (he:ZD P e α V):ZD P T (List α) (fun l=>(∀ x∈l,V x)/\l.length<=maxLen):=by
 refine ⟨hc,fun enc w fuel cs x h=>?_⟩;obtain ⟨hce,heo⟩:=he;rcases DataW.trod_slice ht h with ⟨rfl,_⟩ | ⟨a,len,cap,elems,rest,n,_,rfl,rfl,hb,hl,hm,hlen,hel,hsp,_⟩
 ·exact ⟨[],⟨_,rfl,.inl ⟨none,rfl,rfl⟩⟩,(fun x hx=>by cases hx),Nat.zero_le _⟩
 ·obtain ⟨hrl,hr⟩:=hsp rfl;rw [hce] at hel hr
  -- each element's cells
  have each:∀ i,i < cap->∃ cs',w.cells? 0 (a.add (i * Rep.n α)) (Rep.n α)=some cs'/\∃ y,DataW.trod enc P w 0 (fun _=>true) true n e cs'=some y:=by
   intro i hi;have:∃ y,(w.cells? 0 (a.add (i * Rep.n α)) (Rep.n α)).bind (DataW.trod enc P w 0 (fun _=>true) true n e)=some y:=by
    rcases Nat.lt_or_ge i len with h1 | h1
    ·simp_all
    ·have:=hr (i - len) (by omega)
     grind
   grind [Option.bind_eq_some_iff]
  rcases Nat.eq_zero_or_pos cap with h0 | h0
  ·subst h0;obtain rfl:len=0:=by omega
   exact ⟨[],⟨_,rfl,.inl ⟨_,rfl,rfl⟩⟩,(fun x hx=>by cases hx),Nat.zero_le _⟩
  · -- the block
   obtain ⟨cs0,hc0,_⟩:=each 0 h0;obtain ⟨_,hl0,hg0⟩:=World.cells?_some hc0;have hv0:=hg0 0 hn;rw [List.getElem?_eq_getElem (by omega)] at hv0;obtain ⟨hs0,_⟩:=Qwa hv0;have hspot:a.spot=none:=by
    grind [mk,Addr.add]
   have ha:=Qvg hspot;obtain ⟨b,off,ha'⟩:∃ b off,a=⟨b,off,none⟩:=⟨_,_,ha⟩;subst ha';rw [Y1,Y1] at hv0;obtain ⟨_,cur,ec,fz,hblk,_⟩:=Qwa hv0;have hblk:w.heap[b]?=some (.cells cur ec fz):=hblk;have cellat:∀ j v,w.cell? ⟨b,j,none⟩=some v->cur[j]?=some v:=by
    grind [World.cell?]
   have data:∀ i,i < cap->∃ d:α,Rep.rd [] w ((cur.toList.drop (off+i * Rep.n α)).take (Rep.n α)) d/\V d:=by
    intro i hi;obtain ⟨cs',h1,y,h2⟩:=each i hi;obtain ⟨_,hl1,hg1⟩:=World.cells?_some h1;have e1:cs'=(cur.toList.drop (off+i * Rep.n α)).take (Rep.n α):=by
     apply List.ext_getElem?;intro j;rcases Nat.lt_or_ge j (Rep.n α) with hj | hj
     ·grind [List.getElem?_take_of_lt,List.getElem?_eq_getElem,Y1]
     grind
    grind
   obtain ⟨ds,hds,hp⟩:=Qwc len fun i hi=>data i (by omega)
   have hsize:off+cap * Rep.n α<=cur.size:=by
    obtain ⟨cs',h1,_⟩:=each (cap - 1) (by omega);obtain ⟨_,hl1,hg1⟩:=World.cells?_some h1;have h3:=hg1 (Rep.n α - 1) (by omega);rw [Y1,Y1,List.getElem?_eq_getElem (by omega)] at h3;have h4:=(Array.getElem?_eq_some_iff.1 (cellat _ _ h3)).1;have h5:cap * Rep.n α=(cap - 1) * Rep.n α+Rep.n α:=by
     conv=>lhs;rw [show cap=(cap - 1)+1 by omega,Nat.succ_mul]
    omega
   subst hds;refine ⟨ds,⟨_,rfl,.inr ⟨b,off,cap,cur,ec,fz,rfl,hblk,Avoids.nil _,hl,hm,hsize,?_⟩⟩,fun x hx=>?_,Nat.le_trans hl hm⟩
   ·have hle:ds.length * Rep.n α<=cap * Rep.n α:=Nat.mul_le_mul_right _ hl;refine ⟨by simp;omega,fun i d hd=>?_⟩;have hi:=(List.getElem?_eq_some_iff.1 hd).1;have hi2:(i+1) * Rep.n α<=ds.length * Rep.n α:=Nat.mul_le_mul_right _ hi
    grind [List.drop_take,List.drop_drop,Nat.min_eq_left,Nat.succ_mul]
   grind [List.getElem?_of_mem]

theorem Qml {H:Type} {enc:TypeId×Value->H} {P:Program} {w:World} {fuel:Nat} {T:TypeId} {cs:List Value} {x:DataW H×List MemPlace} {fs:Array Field} (ht:P.underlying T=some (.struct fs)) (h:DataW.trod enc P w 0 (fun _=>true) true fuel T cs=some x) :
  cs.length=P.cellsOf T/\∃ n,∀ (i:Nat) (f:Field),fs[i]?=some f->∃ y,DataW.trod enc P w 0 (fun _=>true) true n f.type ((cs.drop f.offset).take (P.cellsOf f.type))=some y:=by
 obtain ⟨xs,n,_,_,hl,hx,hf⟩:=DataW.trod_struct ht h;refine ⟨hl,n,fun i f hi=>?_⟩
 grind
theorem QPt {H:Type} {enc:TypeId×Value->H} {P:Program} {w:World} {fuel:Nat} {T e m:Nat} {cs:List Value} {x:DataW H×List MemPlace} (ht:P.underlying T=some (.array m e)) (h:DataW.trod enc P w 0 (fun _=>true) true fuel T cs=some x) :
  cs.length=P.cellsOf T/\∃ n,∀ i,i < m->∃ y,DataW.trod enc P w 0 (fun _=>true) true n e ((cs.drop (i * P.cellsOf e)).take (P.cellsOf e))=some y:=by
 obtain ⟨xs,n,_,_,hl,hx,hf⟩:=DataW.trod_array ht h;refine ⟨hl,n,fun i hi=>?_⟩;simp_all
end Go.Gw
