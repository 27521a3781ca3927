/- Laws of the walk. Condition: each theorem says its own. -/
import Derived.Test.YteplgmnnkdpmeaaGreatDoorGwTopA
import Derived.Test.YteplgmnnkdpmeaaGreatDoorGwLib21
set_option linter.unusedVariables false
set_option linter.unusedSimpArgs false
set_option linter.unusedSectionVars false
section
set_option maxRecDepth 100000
namespace Go.Gw
open Go
theorem QBu:Qpj=some true:=by decide +kernel
end Go.Gw

end
section
set_option linter.unusedSectionVars false
namespace Go.Gw
section
variable {α β γ σ ρ:Type}
def Yd (p:α->Bool) (res:Nat->α->ρ):Nat->List α->ρ⊕Unit
 | _,[]=>.inr ()
 | k,x::xs=>if p x then .inl (res k x) else Yd p res (k+1) xs
theorem Zd {step:Int->Option (Int⊕(ρ⊕Unit))} (xs:List α) (p:α->Bool) (res:Nat->α->ρ)
  (hs:∀ k (hk:k < xs.length),step (k:Int)=(bif p xs[k] then some (.inr (.inl (res k xs[k]))) else some (.inl ((k+1:Nat):Int))))
  (he:step (xs.length:Int)=some (.inr (.inr ()))):loop step 0=some (Yd p res 0 xs):=by
 have key:∀ j k,j+k=xs.length->loop step (k:Int)=some (Yd p res k (xs.drop k)):=by
  intro j
  induction j with
  | zero =>
   intro k hk;obtain rfl:k=xs.length:=by omega
   rw [List.drop_length];exact Qeu he
  | succ j ih =>
   intro k hk;have hlt:k < xs.length:=by omega
   rw [List.drop_eq_getElem_cons hlt];have:=hs k hlt;cases hp:p xs[k] with
   | true=>simp_all [Qeu,Yd,if_true]
   | false=>grind [Qdh,Yd]
 have:=key xs.length 0 (by omega);trivial

def fld (f:Nat->γ->α->γ):Nat->γ->List α->γ
 | _,a,[]=>a
 | k,a,x::xs=>fld f (k+1) (f k a x) xs
theorem Qwc {step:σ->Option (σ⊕β)} (xs:List α) (f:Nat->γ->α->γ) (S:γ->Nat->σ) (o:γ->β) (Inv:γ->Nat->Prop) (a0:γ) (h0:Inv a0 0)
  (hs:∀ k (hk:k < xs.length) a,Inv a k->step (S a k)=some (.inl (S (f k a xs[k]) (k+1)))/\Inv (f k a xs[k]) (k+1))
  (he:∀ a,Inv a xs.length->step (S a xs.length)=some (.inr (o a))):loop step (S a0 0)=some (o (fld f 0 a0 xs))/\Inv (fld f 0 a0 xs) xs.length:=by
 have key:∀ j k a,j+k=xs.length->Inv a k->loop step (S a k)=some (o (fld f k a (xs.drop k)))/\Inv (fld f k a (xs.drop k)) xs.length:=by
  intro j
  induction j with
  | zero =>
   intro k a hk hI;obtain rfl:k=xs.length:=by omega
   rw [List.drop_length];exact ⟨Qeu (he a hI),hI⟩
  | succ j ih =>
   intro k a hk hI;have hlt:k < xs.length:=by omega
   rw [List.drop_eq_getElem_cons hlt];have:=hs k hlt a hI;rw [Qdh this.1];exact ih (k+1) _ (by omega) this.2
 have:=key xs.length 0 a0 (by omega) h0;trivial

theorem XK (k:Nat) (h:k < 4611686018427387904):w64 ((k:Int)+1)=((k+1:Nat):Int):=by grind [Zg]
theorem XY {k n:Nat} (h:k < n):decide ((k:Int) < (n:Int))=true:=by simp;omega
theorem XZ (n:Nat):decide ((n:Int) < (n:Int))=false:=by simp
end
end Go.Gw

end
section
set_option maxRecDepth 4096
namespace Go.Gw
open Go
def ZM:List Int->Int
 | []=>0
 | x::xs=>if x=0 then ZM xs else x
theorem ZL (l:List Int) (hl:l.length < 1073741824):ZN l=some (ZM l):=by
  unfold ZN;rw [Zd l (fun x=>!decide (x=0)) (fun _ x=>x)]
  · have key : ∀ (l : List Int) k, (Xl (Yd (fun x => !decide (x = 0)) (fun _ x => x) k l) fun (_ : Unit) => some 0) = some (ZM l) := by
      intro l
      induction l with
      | nil=>intro k;rfl
      | cons x xs ih =>
        intro k;by_cases h:x=0
        · simp [Yd,ZM,h];exact ih _
        · simp [Yd,ZM,h,Xl]
    simpa using key l 0
  · intro k hk;unfold Qpt;rw [XY hk,XE hk,XK k (by omega)];rfl
  · unfold Qpt;rw [XZ];rfl
theorem YC (b:Bool) (e:Int):Yi b e=some (bif b then 0 else e):=by cases b<;>rfl
theorem Qsw (n lo hi:Int):Js n lo hi=some (decide (lo<=n)&&decide (n<=hi)):=rfl
theorem QGj (n:Int):Qkf n=some (decide (0<=n)&&decide (n<=6)):=rfl
end Go.Gw

end
section
set_option maxRecDepth 4096
namespace Go.Gw
open Go
def Qau (n:Int):Bool:=decide (0<=n)&&decide (n<=250)
end Go.Gw

end
section
set_option maxRecDepth 4096
namespace Go.Gw
open Go
attribute [local irreducible] loop
end Go.Gw

end
section
set_option maxRecDepth 4096
namespace Go.Gw
open Go
attribute [local irreducible] loop
end Go.Gw

end
section
set_option maxRecDepth 4096
namespace Go.Gw
open Go
attribute [local irreducible] loop
theorem Qfh {α:Type} (p:α->Bool):∀ (l:List α) (k:Nat),(Xl (β:=Int) (Yd p (fun k _=>(k:Int)) k l) fun (_:Unit)=>some (-1))=some (match Yd p (fun k _=>(k:Int)) k l with | .inl i=>i | .inr _=>-1)
 | l,k=>by cases Yd p (fun k _=>(k:Int)) k l<;>rfl
theorem Qhz {α:Type} (p:α->Bool):∀ (l:List α) (k:Nat),decide (0<=(match Yd p (fun k _=>(k:Int)) k l with | .inl i=>i | .inr _=>(-1:Int)))=l.any p
 | [],k=>by simp [Yd]
 | x::xs,k=>by
  by_cases h:p x=true
  ·simp [Yd,h]
  ·simp only [Yd,h,List.any_cons];have:=Qhz p xs (k+1);simpa [h] using this
theorem ZY {α ρ:Type} {p:α->Bool} {res:Nat->α->ρ}:∀ (l:List α) (k:Nat),(Yd p res k l=.inr ()/\l.any p=false)\/∃ j x,Yd p res k l=.inl (res j x)/\p x=true/\l.any p=true
 | [],k=>.inl ⟨rfl,rfl⟩
 | x::xs,k=>by
  by_cases h:p x=true
  ·exact .inr ⟨k,x,by simp [Yd,h],h,by simp [h]⟩
  ·rcases ZY xs (k+1) (p:=p) (res:=res) with ⟨h1,h2⟩ | ⟨j,y,h1,h2,h3⟩
   ·exact .inl ⟨by simp [Yd,h,h1],by simp [h,h2]⟩
   ·exact .inr ⟨j,y,by simp [Yd,h,h1],h2,by simp [h3]⟩
def XF (f:Nat->Int) (n:Nat):Option Nat:=(List.range n).find? fun i=>decide (f i≠0)
theorem Qjj (f:Nat->Int) (n:Nat):(XF f n=none/\∀ j,j < n->f j=0)\/∃ i,XF f n=some i/\i < n/\f i≠0/\∀ j,j < i->f j=0:=by
 cases h:XF f n with
 | none =>
  refine .inl ⟨rfl,fun j hj=>?_⟩;have:=List.find?_eq_none.1 h j (List.mem_range.2 hj);simpa using this
 | some i =>
  right;obtain ⟨h1,h2,h3⟩:=List.find?_range_eq_some.1 h;exact ⟨i,rfl,List.mem_range.1 h2,by simpa using h1,fun j hj=>by have:=h3 j hj;simpa using this⟩
theorem J8 {σ ρ μ:Type} {step:σ->Option (σ⊕(ρ⊕μ))} (S:Nat->σ) (n:Nat) (f:Nat->Int) (res:Nat->Int->ρ) (o:μ)
  (hs:∀ k,k < n->(∀ j,j < k->f j=0)->step (S k)=if f k=0 then some (.inl (S (k+1))) else some (.inr (.inl (res k (f k))))) (he:(∀ j,j < n->f j=0)->step (S n)=some (.inr (.inr o))) :
  loop step (S 0)=some (match XF f n with | some i=>.inl (res i (f i)) | none=>.inr o):=by
 rcases Qjj f n with ⟨h1,h2⟩ | ⟨i,h1,h2,h3,h4⟩
 ·rw [h1];exact Qet S n (fun k hk=>by rw [hs k hk fun j hj=>h2 j (by omega),if_pos (h2 k hk)]) (he h2)
 ·rw [h1];exact Qet S i (fun k hk=>by rw [hs k (by omega) fun j hj=>h4 j (by omega),if_pos (h4 k hk)]) (by rw [hs i h2 h4,if_neg h3])
/-! ### Names -/
def Qfy (q:Int×Nat):Bool:=(!(((decide (97<=q.1))&&(decide (q.1<=122)))||((decide (65<=q.1))&&(decide (q.1<=90)))))&&((decide ((q.2:Int)=0))||((!decide (q.1=45))&&((decide (q.1 < 48))||(decide (57 < q.1)))))
def bi (s:ByteArray):List Int:=bl s
theorem Qja (s:ByteArray):(bi s).length=s.size:=Qag s
theorem Qva {s:ByteArray} {k:Nat} (h:k < (bi s).length):idx (α:=Int) (bl s) (k:Int)=some (bi s)[k]:=XE (xs:=bi s) h
def Qai (s:ByteArray):Bool:=decide (1<=s.size)&&(decide (s.size<=12)&&!((bi s).zipIdx.any Qfy))
theorem Qyt (s:ByteArray):s=ByteArray.mk #[]↔s.size=0:=by
 constructor
 ·intro h;subst h;rfl
 ·intro h;cases s with
  | mk d =>
   congr 1;exact Array.eq_empty_of_size_eq_zero h
theorem Qny (s:ByteArray):Qed s=some (Qai s):=by
  unfold Qed Qai;have hlen:(bi s).zipIdx.length=s.size:=by rw [List.length_zipIdx,Qja]
  by_cases h:1<=s.size/\s.size<=12
  · have : (decide ((s.size : Int) < 1) || decide (12 < (s.size : Int))) = false := by
      rw [decide_eq_false (by omega),decide_eq_false (by omega)];rfl
    rw [this,cond_false,Zd (bi s).zipIdx Qfy (fun _ _=>false),Qp]
    · rcases ZY (p:=Qfy) (res:=fun _ _=>false) (bi s).zipIdx 0 with ⟨k1,k2⟩ | ⟨j,x,k1,k2,k3⟩
      · rw [k1,k2];simp [h,Xl]
      · rw [k1,k3];simp [Xl]
    · intro k hk;rw [hlen] at hk;unfold Qoe;rw [XY hk,cond_true,Qva (show k < (bi s).length by rw [Qja];exact hk),Qp,XK k (by omega)];simp only [List.getElem_zipIdx,Nat.zero_add];rfl
    · rw [hlen];unfold Qoe;rw [XZ];rfl
  · have : (decide ((s.size : Int) < 1) || decide (12 < (s.size : Int))) = true := by
      by_cases h1:s.size < 1
      · rw [decide_eq_true (by omega)];rfl
      · rw [decide_eq_true (p:=12 < (s.size:Int)) (by omega)];simp
    rw [this,cond_true];congr 1;by_cases h1:1<=s.size
    · rw [decide_eq_false (p:=s.size<=12) (by omega)];simp
    · rw [decide_eq_false h1];rfl
theorem Qpe (s:ByteArray) (hs:s.size<=1000):Qeo s=some (Qai s):=by
 unfold Qeo Qai;have hlen:(bi s).zipIdx.length=s.size:=by rw [List.length_zipIdx,Qja]
 have ht:tob s=some (bl s):=by unfold tob;rw [if_pos (by omega)]
 rw [ht,Qp,Zd (bi s).zipIdx Qfy (fun _ _=>false),Qp]
 ·rcases ZY (p:=Qfy) (res:=fun _ _=>false) (bi s).zipIdx 0 with ⟨k1,k2⟩ | ⟨j,x,k1,k2,k3⟩
  ·rw [k1,k2];simp only [Xl,Bool.not_false,Bool.and_true,Option.some.injEq];by_cases h0:s.size=0
   ·rw [decide_eq_true ((Qyt s).2 h0),decide_eq_false (show ¬ 1<=s.size by omega)];rfl
   ·rw [decide_eq_false (fun e=>h0 ((Qyt s).1 e)),decide_eq_true (show 1<=s.size by omega)];simp only [Bool.not_false,Bool.true_and];by_cases h1:s.size<=12
    ·rw [decide_eq_true h1,decide_eq_true (by omega)]
    ·rw [decide_eq_false h1,decide_eq_false (by omega)]
  ·rw [k1,k3];simp [Xl]
 ·intro k hk;rw [hlen] at hk;have hk2:k < (bl s).length:=by rw [Qag];exact hk
  unfold Qpv;rw [XY hk2,cond_true,Qva (show k < (bi s).length by rw [Qja];exact hk),Qp,XK k (by omega)];simp only [List.getElem_zipIdx,Nat.zero_add];rfl
 ·rw [hlen,show (s.size:Int)=((bl s).length:Int) by rw [Qag]];unfold Qpv;rw [XZ];rfl
theorem Qbl (n lo hi:Int):ZS n lo hi=some (decide (lo<=n)&&decide (n<=hi)):=rfl
theorem QFt (a b:Int):ZM [a,b]=if a≠0 then a else b:=by
 unfold ZM ZM ZM;by_cases h:a=0<;>by_cases h2:b=0<;>simp [h,h2]
theorem Qek (a b c:Int):ZM [a,b,c]=if a≠0 then a else if b≠0 then b else c:=by
 unfold ZM ZM ZM ZM;by_cases h:a=0<;>by_cases h2:b=0<;>by_cases h3:c=0<;>simp [h,h2,h3]
theorem Qup {α:Type} [DecidableEq α]:∀ (a b:List α) (hl:a.length=b.length) (k:Nat),(Xl (Yd (fun (x:α×α)=>!decide (x.1=x.2)) (fun _ _=>false) k (a.zip b)) fun (_:Unit)=>some true)=some (decide (a=b))
 | [],[],_,k=>by simp [Yd,Xl]
 | [],_::_,hl,_=>by simp at hl
 | _::_,[],hl,_=>by simp at hl
 | x::a,y::b,hl,k=>by
  by_cases hxy:x=y
  ·subst hxy;have:=Qup a b (by simpa using hl) (k+1);simp only [List.zip_cons_cons,Yd];simpa using this
  ·simp [Yd,hxy,Xl]
theorem QAq {α:Type} {a b:List α} (hl:a.length=b.length):(a.zip b).length=a.length:=by simp [hl]
theorem ZV {α:Type} (l:List α) (f:α->Int) (k:Nat) (hk:k < l.length):(l[k]?.map f).getD 0=f l[k]:=by rw [List.getElem?_eq_getElem hk];rfl
theorem Qsh {α β:Type} (l:List α) (f:α->β) (k:Nat) (hk:k < l.length):(l.take k).map f++[f l[k]]=(l.take (k+1)).map f:=by
 rw [List.take_add_one,List.getElem?_eq_getElem hk,List.map_append];rfl
theorem Qnl {α β:Type} {a:List α} {b:List β} (hl:a.length=b.length):(a.zip b).length=a.length:=by simp [hl]
theorem Qbm {α:Type} {xs:List α} {k:Nat} (h:k<=xs.length):cut xs 0 (k:Int)=some (xs.take k):=by
 unfold cut;rw [if_pos (by omega),Int.toNat_natCast];rfl
theorem Qtn {α:Type} [DecidableEq α] (l:List α) (v:α):(l.any fun x=>decide (v=x))=decide (v∈l):=by
 rw [Bool.eq_iff_iff];simp
theorem Qto {α:Type} [DecidableEq α] (l:List α) (v:α):(l.any fun x=>decide (x=v))=decide (v∈l):=by
 rw [Bool.eq_iff_iff];simp
def Qay {α:Type} (p:α->Bool) (l:List α):Int:=match Yd p (fun k _=>(k:Int)) 0 l with | .inl i=>i | .inr _=>(-1:Int)
theorem Qpd {α:Type} (p:α->Bool) (l:List α):decide (0<=Qay p l)=l.any p:=Qhz p l 0
theorem Qvf (l:List Int) (v:Int) (hl:l.length < 1000000):Qhy l v=some (Qay (fun x=>decide (v=x)) l):=by
 unfold Qhy Qay;rw [Zd l (fun x=>decide (v=x)) (fun k _=>(k:Int)),Qp,Qfh]
 ·intro k hk;unfold Qsb;rw [XY hk,XE hk,XK k (by omega)];rfl
 ·unfold Qsb;rw [XZ];rfl
theorem Qee (l:List Int) (v:Int) (hl:l.length < 1000000):Qbb l v=some (decide (v∈l)):=by
 unfold Qbb;rw [Qvf l v hl,Qp,Qpd,Qtn]
end Go.Gw

end
section
set_option maxRecDepth 4096
namespace Go.Gw
open Go
attribute [local irreducible] loop
def ZD (s:ByteArray) (others:List ByteArray):Int:=bif Qai s then (bif Ze others s then 5 else 0) else 4
def Zr (l:List ByteArray) (k:Nat):Int:=(l[k]?.map fun s=>ZD s (l.take k)).getD 0
def Yu (p:Ng) (n:Int):Bool:=decide (0<=n)&&decide (n<=(p.Nd.length:Int) - 1)
def swX (p:Ng) (k:Nat) (s:Nt):Int:=bif Yu p s.Nl then (bif (p.Nb.take k).any (fun o=>decide (o.Nl=s.Nl)) then 26 else 0) else 6
def swE (p:Ng) (k:Nat) (s:Nt):Int:=if ZD s.Name ((p.Nb.take k).map (·.Name))=0 then swX p k s else ZD s.Name ((p.Nb.take k).map (·.Name))
def ZG (p:Ng) (k:Nat):Int:=(p.Nb[k]?.map (swE p k)).getD 0
def rsE (p:Ng) (r:Nn) (k:Nat) (s:Int):Int:=bif Yu p s then (bif decide (s∈r.Nd.take k) then 26 else 0) else 6
def Jz (p:Ng) (r:Nn) (k:Nat):Int:=(r.Nd[k]?.map (rsE p r k)).getD 0
def Qaj (r:Nn) (q:Int×Nt):Bool:=bif decide (q.2.Nl∈r.Nd) then !(decide (q.1=0)||decide (q.1=1)) else !decide (q.1=-1)
def rtX (p:Ng) (r:Nn):Int :=
 if r.Nd.length < 2 then 10 else if p.Nd.length < r.Nd.length then 8 else
 match XF (Jz p r) r.Nd.length with
 | some i=>Jz p r i
 | none=>if r.Nr.length=p.Nb.length then (bif (r.Nr.zip p.Nb).any (Qaj r) then 2 else 0) else 10
def rtE (p:Ng) (k:Nat) (r:Nn):Int:=if ZD r.Name ((p.Ni.take k).map (·.Name))=0 then rtX p r else ZD r.Name ((p.Ni.take k).map (·.Name))
def ZE (p:Ng) (k:Nat):Int:=(p.Ni[k]?.map (rtE p k)).getD 0
def Jx (p:Ng):Np×Int :=
 if p.Nd.length=0\/p.Na.length=0 then (Np.mk 0 0,10) else if 8 < p.Nd.length\/3 < p.Na.length\/4 < p.Nb.length\/10 < p.Ni.length then (Np.mk 0 0,8) else
 match XF (Zr p.Nd) p.Nd.length with
 | some i=>(Np.mk 1 i,Zr p.Nd i)
 | none=>match XF (Zr p.Na) p.Na.length with
  | some i=>(Np.mk 2 i,Zr p.Na i)
  | none=>match XF (ZG p) p.Nb.length with
   | some i=>(Np.mk 3 i,ZG p i)
   | none=>match XF (ZE p) p.Ni.length with
    | some i=>(Np.mk 4 i,ZE p i)
    | none=>(Np.mk 0 0,0)
structure PlantS (p:Ng):Prop where
 se:p.Nd.length < 1000
 tr:p.Na.length < 1000
 sw:p.Nb.length < 1000
 ro:p.Ni.length < 1000
 sn:∀ s∈p.Nd,s.size<=1000
 tn:∀ s∈p.Na,s.size<=1000
 wn:∀ s∈p.Nb,s.Name.size<=1000
 rn:∀ r∈p.Ni,r.Name.size<=1000/\r.Nd.length < 1000/\r.Nr.length < 1000
theorem Qpb {α:Type} (l:List α) (f:α->ByteArray) (k:Nat) (hk:k < l.length) (h:Ze ((l.take k).map f) (f l[k])=false):Z6 ((l.take k).map f) (f l[k])=(l.take (k+1)).map f:=by
 unfold Z6;rw [h,if_neg (by simp),Qsh l f k hk]
theorem Qqh (s:ByteArray) (others:List ByteArray):ZM [bif Qai s then 0 else 4,bif !(Ze others s) then 0 else 5]=ZD s others:=by
 unfold ZD;cases Qai s<;>cases Ze others s<;>rfl
theorem Qqi {s:ByteArray} {others:List ByteArray} (h:ZD s others=0):Ze others s=false:=by
 unfold ZD at h;cases h1:Ze others s with
 | false=>rfl
 | true=>rw [h1] at h;cases h2:Qai s<;>rw [h2] at h<;>cases h
theorem QCr {n m:Int} (h:n≠m):decide (n=m)=false:=decide_eq_false h
theorem Qwj (l:List ByteArray) (mark:Int) (hl:l.length < 1000) (hn:∀ s∈l,s.size<=1000):Qgy mark l=some (match XF (Zr l) l.length with | some i=>(Np.mk mark i,Zr l i) | none=>(Np.mk 0 0,0)):=by
 unfold Qgy;have key:loop (Qgx l mark) (0,[])=some (match XF (Zr l) l.length with | some i=>.inl (Np.mk mark i,Zr l i) | none=>.inr ()):=by
  refine J8 (step:=Qgx l mark) (fun k=>((k:Int),(l.take k).map id)) l.length (Zr l) (fun i e=>(Np.mk mark i,e)) () (fun k hk _=>?_) (fun _=>?_)
  ·have hs:Zr l k=ZD l[k] (l.take k):=ZV _ _ _ hk;have hi:=fun h=>Qpb l id k hk h
   simp only [List.map_id,id_eq] at hi ⊢;rw [hs];unfold Qgx;simp only [XY hk,cond_true,XE hk,Qp];rw [show Qpx l[k]=some l[k] from rfl,Qp,Qpe _ (hn _ (List.getElem_mem hk)),Qp];simp only [YC,Qp];rw [ZL _ (by simp),Qp,Qqh];by_cases h:ZD l[k] (l.take k)=0
   ·rw [if_pos h,h,hi (Qqi h),XK k (by omega)];rfl
   ·rw [if_neg h,QCr h];rfl
  ·unfold Qgx;simp only [XZ];rfl
 rw [key,Qp];cases XF (Zr l) l.length<;>rfl
theorem QCf (l:List Nt) (s:Nt) (hl:l.length < 1000):Qmm l s=some (l.any fun o=>decide (o.Nl=s.Nl)):=by
 unfold Qmm Qrv;rw [Zd l (fun o=>decide (o.Nl=s.Nl)) (fun k _=>(k:Int)),Qp,Qfh,Qp,Qhz]
 ·intro k hk;unfold Qru;rw [XY hk,XE hk,XK k (by omega)];rfl
 ·unfold Qru;rw [XZ];rfl
theorem Qyo (p:Ng) (hp:p.Nd.length < 1000) (n:Int):Js n 0 (w64 ((p.Nd.length:Int) - 1))=some (Yu p n):=by
 rw [Qsw,Zg (by omega)];rfl
theorem QQu {p:Ng} (h:PlantS p) (k:Nat) (hk:k < p.Nb.length):Qku p k=some (swX p k p.Nb[k]):=by
 have h1:=h.sw;unfold Qku swX;rw [XE hk,Qp,Qbm (by omega),Qp,QCf _ _ (by simp;omega),Qp,Qyo p h.se,Qp,YC,Qp,YC,Qp,ZL _ (by simp),Qp];cases Yu p p.Nb[k].Nl<;>cases (p.Nb.take k).any (fun o=>decide (o.Nl=p.Nb[k].Nl))<;>rfl
theorem QQv {p:Ng} (h:PlantS p):Qkn 3 p.Nb p=some (match XF (ZG p) p.Nb.length with | some i=>(Np.mk 3 i,ZG p i) | none=>(Np.mk 0 0,0)):=by
 have hl:=h.sw;unfold Qkn;have key:loop (Qgw p p.Nb 3) (0,[])=some (match XF (ZG p) p.Nb.length with | some i=>.inl (Np.mk 3 i,ZG p i) | none=>.inr ()):=by
  refine J8 (step:=Qgw p p.Nb 3) (fun k=>((k:Int),(p.Nb.take k).map (·.Name))) p.Nb.length (ZG p) (fun i e=>(Np.mk 3 i,e)) () (fun k hk _=>?_) (fun _=>?_)
  ·have hs:ZG p k=swE p k p.Nb[k]:=ZV _ _ _ hk;have hi:=fun h=>Qpb p.Nb (·.Name) k hk h
   rw [hs];unfold Qgw swE;simp only [XY hk,cond_true,XE hk,Qp];rw [show Qpn p.Nb[k]=some p.Nb[k].Name from rfl,Qp,Qpe _ (h.wn _ (List.getElem_mem hk)),Qp];simp only [YC,Qp];rw [ZL _ (by simp),Qp,Qqh,show Qka (k:Int) p=some (swX p k p.Nb[k]) by unfold Qka;rw [QQu h k hk];rfl];by_cases h1:ZD p.Nb[k].Name ((p.Nb.take k).map (·.Name))=0
   ·simp only [h1,hi (Qqi h1),if_true,decide_true,Bool.true_and,cond_true,Qp,XK k (show k < 4611686018427387904 by omega)];by_cases h2:swX p k p.Nb[k]=0
    ·simp [h2]
    ·simp [h2]
   ·simp only [h1,if_false,decide_false,Bool.false_and,cond_false,Qp,Bool.not_false,cond_true]
  ·unfold Qgw;simp only [XZ];rfl
 rw [key,Qp];cases XF (ZG p) p.Nb.length<;>rfl
theorem QOd {p:Ng} (h:PlantS p) (r:Nn) (hr:r.Nd.length < 1000):loop (Qkr r p) 0=some (match XF (Jz p r) r.Nd.length with | some i=>.inl (Jz p r i) | none=>.inr ()) :=
 J8 (fun k=>(k:Int)) r.Nd.length (Jz p r) (fun _ e=>e) () (fun k hk _=>by
  have hs:Jz p r k=rsE p r k r.Nd[k]:=ZV _ _ _ hk;rw [hs];unfold Qkr rsE;rw [XY hk,cond_true,XE hk,Qp,Qbm (by omega),Qp,Qyo p h.se,Qp,YC,Qp,Qee _ _ (by simp;omega),Qp,YC,Qp,ZL _ (by simp),Qp,XK k (by omega)];cases Yu p r.Nd[k]<;>cases decide (r.Nd[k]∈r.Nd.take k)<;>rfl) (fun _=>by
  unfold Qkr;rw [XZ];rfl)
theorem QOc {p:Ng} (r:Nn) (hr:r.Nd.length < 1000) (hn:r.Nr.length < 1000) (he:r.Nr.length=p.Nb.length):loop (Qks r p) 0=some (Yd (Qaj r) (fun _ _=>(2:Int)) 0 (r.Nr.zip p.Nb)) :=
 Zd (r.Nr.zip p.Nb) _ _ (fun k hk=>by
  rw [Qnl he] at hk;unfold Qks;rw [XY hk,cond_true,XE hk,Qp,XE (show k < p.Nb.length by omega),Qp,Qee _ _ (by omega),Qp,XK k (by omega)];simp only [List.getElem_zip,Qaj];rw [show Qep r.Nr[k]=some (decide (r.Nr[k]=0)||decide (r.Nr[k]=1)) from rfl];cases decide (p.Nb[k].Nl∈r.Nd)<;>rfl) (by
  rw [Qnl he];unfold Qks;rw [XZ];rfl)
theorem QOg {p:Ng} (h:PlantS p) (k:Nat) (hk:k < p.Ni.length):Qkt p k=some (rtX p p.Ni[k]):=by
 obtain ⟨_,hr,hn⟩:=h.rn _ (List.getElem_mem hk);have h1:=h.se;have h2:=h.sw;unfold Qkt rtX;rw [XE hk,Qp,YC,Qp,YC,Qp,ZL _ (by simp),Qp];generalize p.Ni[k]=r at hr hn ⊢;by_cases h3:r.Nd.length < 2
 ·rw [if_pos h3,decide_eq_false (show ¬ (2<=(r.Nd.length:Int)) by omega)];rfl
 rw [if_neg h3,decide_eq_true (show 2<=(r.Nd.length:Int) by omega)];by_cases h4:p.Nd.length < r.Nd.length
 ·rw [if_pos h4,decide_eq_false (show ¬ ((r.Nd.length:Int)<=p.Nd.length) by omega)];rfl
 rw [if_neg h4,decide_eq_true (show (r.Nd.length:Int)<=p.Nd.length by omega),QOd h r hr];simp only [ZM,cond_true,if_true,decide_true,Bool.not_true,cond_false,Qp];cases XF (Jz p r) r.Nd.length with
 | some i=>rfl
 | none =>
  simp only [Xl];by_cases h5:r.Nr.length=p.Nb.length
  ·rw [if_pos h5,decide_eq_true (by omega),Bool.not_true,cond_false,QOc r hr hn h5,Qp];rcases ZY (p:=Qaj r) (res:=fun _ _=>(2:Int)) (r.Nr.zip p.Nb) 0 with ⟨k1,k2⟩ | ⟨j,x,k1,k2,k3⟩
   ·rw [k1,k2];rfl
   ·rw [k1,k3];rfl
  ·rw [if_neg h5,decide_eq_false (by omega)];rfl
theorem QOs {p:Ng} (h:PlantS p):Qkm 4 p.Ni p=some (match XF (ZE p) p.Ni.length with | some i=>(Np.mk 4 i,ZE p i) | none=>(Np.mk 0 0,0)):=by
 have hl:=h.ro;unfold Qkm;have key:loop (Qgv p p.Ni 4) (0,[])=some (match XF (ZE p) p.Ni.length with | some i=>.inl (Np.mk 4 i,ZE p i) | none=>.inr ()):=by
  refine J8 (step:=Qgv p p.Ni 4) (fun k=>((k:Int),(p.Ni.take k).map (·.Name))) p.Ni.length (ZE p) (fun i e=>(Np.mk 4 i,e)) () (fun k hk _=>?_) (fun _=>?_)
  ·have hs:ZE p k=rtE p k p.Ni[k]:=ZV _ _ _ hk;have hi:=fun h=>Qpb p.Ni (·.Name) k hk h
   rw [hs];unfold Qgv rtE;simp only [XY hk,cond_true,XE hk,Qp];rw [show Qpp p.Ni[k]=some p.Ni[k].Name from rfl,Qp,Qpe _ (h.rn _ (List.getElem_mem hk)).1,Qp];simp only [YC,Qp];rw [ZL _ (by simp),Qp,Qqh,show Qkb (k:Int) p=some (rtX p p.Ni[k]) by unfold Qkb;rw [QOg h k hk];rfl];by_cases h1:ZD p.Ni[k].Name ((p.Ni.take k).map (·.Name))=0
   ·simp only [h1,hi (Qqi h1),if_true,decide_true,Bool.true_and,cond_true,Qp,XK k (show k < 4611686018427387904 by omega)];by_cases h2:rtX p p.Ni[k]=0
    ·simp [h2]
    ·simp [h2]
   ·simp only [h1,if_false,decide_false,Bool.false_and,cond_false,Qp,Bool.not_false,cond_true]
  ·unfold Qgv;simp only [XZ];rfl
 rw [key,Qp];cases XF (ZE p) p.Ni.length<;>rfl
theorem QCg {p:Ng} (h:PlantS p):Qkc p=some (Jx p):=by
  unfold Qkc Jx;rw [YC,Qp,YC,Qp,ZL _ (by simp),Qp];by_cases h1:p.Nd.length=0\/p.Na.length=0
  · rw [if_pos h1, show (decide (0 < (p.Nd.length : Int)) && decide (0 < (p.Na.length : Int))) = false by
      rcases h1 with h1 | h1
      · rw [decide_eq_false (show ¬ (0 < (p.Nd.length:Int)) by omega)];rfl
      · rw [decide_eq_false (show ¬ (0 < (p.Na.length:Int)) by omega),Bool.and_false]]
    rfl
  rw [if_neg h1,decide_eq_true (show 0 < (p.Nd.length:Int) by omega),decide_eq_true (show 0 < (p.Na.length:Int) by omega)];by_cases h2:8 < p.Nd.length\/3 < p.Na.length\/4 < p.Nb.length\/10 < p.Ni.length
  · rw [if_pos h2, show (((decide (8 < (p.Nd.length : Int)) || decide (3 < (p.Na.length : Int))) || decide (4 < (p.Nb.length : Int))) || decide (10 < (p.Ni.length : Int))) = true by
      simp only [Bool.or_eq_true,decide_eq_true_eq];omega]
    rfl
  rw [if_neg h2, show (((decide (8 < (p.Nd.length : Int)) || decide (3 < (p.Na.length : Int))) || decide (4 < (p.Nb.length : Int))) || decide (10 < (p.Ni.length : Int))) = false by
      rw [decide_eq_false (by omega),decide_eq_false (by omega),decide_eq_false (by omega),decide_eq_false (by omega)];rfl]
  unfold Qpl Qpm Qpo Qpq;rw [Qwj _ _ h.se h.sn,Qwj _ _ h.tr h.tn,QQv h,QOs h];have hz:∀ {f:Nat->Int} {n i:Nat},XF f n=some i->f i≠0:=fun {f n i} hf=>by
    rcases Qjj f n with ⟨k1,_⟩ | ⟨j,k1,_,k3,_⟩
    · rw [k1] at hf;cases hf
    · rw [k1] at hf;cases hf;exact k3
  simp only [Bool.true_and,Bool.not_false,cond_true,ZM,if_true,decide_true,Bool.not_true,cond_false,Qp];cases h3:XF (Zr p.Nd) p.Nd.length with
  | some i=>simp [hz h3]
  | none =>
    simp only [decide_true,Bool.not_true,cond_false];cases h4:XF (Zr p.Na) p.Na.length with
    | some i=>simp [hz h4]
    | none =>
      simp only [decide_true,Bool.not_true,cond_false];cases h5:XF (ZG p) p.Nb.length with
      | some i=>simp [hz h5]
      | none =>
        simp only [decide_true,Bool.not_true,cond_false];cases h6:XF (ZE p) p.Ni.length with
        | some i=>simp [hz h6]
        | none=>simp
theorem QNa {p:Ng} (h:PlantS p):Qdg p=some (Jx p).2:=by
 unfold Qdg;rw [QCg h];rfl
end Go.Gw

end
section
set_option maxRecDepth 4096
namespace Go.Gw
open Go
attribute [local irreducible] loop
theorem Qoo {α:Type} {xs:List α} (h:1<=xs.length):cut xs 1 (xs.length:Int)=some (xs.drop 1):=by
 unfold cut;rw [if_pos (by omega),Int.toNat_natCast,List.take_length];rfl
structure StateS (x:Nh):Prop where
 sw:x.Nb.length < 1000
 tr:x.Na.length < 1000
 ch:∀ t∈x.Na,t.Nc.length < 1000
def X0 (x:Nh) (s:Int):Int:=Qay (fun t:Nk=>decide (s∈t.Nc)) x.Na
def ZP (x:Nh) (s:Int):Bool:=x.Na.any fun t=>decide (s∈t.Nc)
theorem QGb (x:Nh) (s:Int):decide (0<=X0 x s)=ZP x s:=Qpd _ _
theorem QGc (p:Ng) {x:Nh} (h:StateS x) (s:Int):Qki (some ⟨p,x⟩) s=some (X0 x s):=by
 have h1:=h.tr;unfold Qki Qrw X0 Qay;rw [Qp];show (Option.bind (Option.bind (loop (Qmp s x.Na) 0) _) _)=_;rw [Zd x.Na (fun t=>decide (s∈t.Nc)) (fun k _=>(k:Int)),Qp,Qfh,Qp]
 ·intro k hk;unfold Qmp Qpz;rw [XY hk,cond_true,XE hk,Qp,Qee _ _ (by have:=h.ch _ (List.getElem_mem hk);omega),Qp,Qp,XK k (by omega)]
 ·unfold Qmp;rw [XZ];rfl
theorem Qsj (p:Ng) {x:Nh} (h:StateS x) (l:List Int) (hl:l.length < 1000):Qes (some ⟨p,x⟩) l=some (l.any (ZP x)):=by
 unfold Qes Qrt Qry;rw [Zd l (ZP x) (fun k _=>(k:Int)),Qp,Qfh,Qp,Qhz]
 ·rfl
 ·intro k hk;unfold Qrx Qqc;rw [XY hk,cond_true,XE hk,Qp,QGc p h,Qp,Qp,QGb,XK k (by omega)]
 ·unfold Qrx;rw [XZ];rfl
def Qdf (secs:List Int) (q:Nt×(Int×Int)):Bool:=decide (q.1.Nl∈secs)&&!decide (q.2.1=q.2.2)
def Y0 (p:Ng) (sw:List Int) (r:Nn) (secs:List Int):Bool:=!((p.Nb.zip (r.Nr.zip sw)).any (Qdf secs))
theorem QQd (α:Type) (p:α->Bool) (l:List α):(Xl (Yd p (fun _ _=>false) 0 l) fun (_:Unit)=>some true)=some (!(l.any p)):=by
 rcases ZY (p:=p) (res:=fun _ _=>false) l 0 with ⟨k1,k2⟩ | ⟨j,x,k1,k2,k3⟩
 ·rw [k1,k2];rfl
 ·rw [k1,k3];rfl
theorem Qvj {p:Ng} {x:Nh} {r:Nn} {secs:List Int} (h1:r.Nr.length=p.Nb.length) (h2:x.Nb.length=p.Nb.length) (h3:p.Nb.length < 1000) (hs:secs.length < 1000):Qgs (some ⟨p,x⟩) r secs=some (Y0 p x.Nb r secs):=by
 unfold Qgs Y0;have hlen:(p.Nb.zip (r.Nr.zip x.Nb)).length=p.Nb.length:=by simp [h1,h2]
 rw [Qp,Zd (p.Nb.zip (r.Nr.zip x.Nb)) (Qdf secs) (fun _ _=>false),Qp,QQd]
 ·intro k hk;rw [hlen] at hk;unfold Qqb;rw [XY hk,cond_true,XE hk,Qp,Qee _ _ (by omega),Qp,XK k (by omega)];simp only [Qp];rw [XE (show k < r.Nr.length by omega),XE (show k < x.Nb.length by omega)];simp only [List.getElem_zip,Qdf,Qp];cases decide (p.Nb[k].Nl∈secs)<;>rfl
 ·rw [hlen];unfold Qqb;rw [XZ];rfl
theorem QCi (l:List Nk) (h:l.length < 1000000):Qmk l=some l:=by
 unfold Qmk;rw [Qae (by simp;omega)];rfl
theorem Qom (l:List Int) (h:l.length < 1000000):Qco l=some l:=by
 unfold Qco;rw [Qae (by simp;omega)];rfl
theorem Qgn {α:Type} {xs:List α} {i:Int} (h0:0<=i) (h:i.toNat < xs.length):idx xs i=some xs[i.toNat]:=by
 unfold idx;rw [if_pos h0,List.getElem?_eq_getElem h]
theorem QJp (p:Ng) (x:Nh) {a:Int} (h0:0<=a) (hk:a.toNat < x.Na.length) (hl:x.Na.length < 1000) (c:List Int) (u:Int):Qbp (some ⟨p,x⟩) a c u=some (some ⟨p,⟨x.Nb,x.Na.set a.toNat ⟨c,u⟩,x.Nj⟩⟩):=by
 unfold Qbp;rw [Qp,QCi _ (by show x.Na.length < _;omega),Qp];show Option.bind (idx x.Na a) _=_;rw [Qgn h0 hk,Qp]
theorem QFv (n:Nat) (h:n < 1000000):Qmo (n:Int)=some []:=by
 unfold Qmo;rw [decide_eq_false (show ¬ (n:Int) < 0 by omega)];simp only [cond_false,Qp,Int.natCast_zero,Int.sub_zero];rw [show w64 (0:Int)=0 from rfl,Int.sub_zero,Zg (by omega)];by_cases h0:0 < (n:Int)
 ·rw [decide_eq_true h0,cond_true];unfold mkZ
  first
  | (rw [if_pos (by omega),Qp];unfold cut;rw [if_pos (by simp)];rfl)
  | skip
 ·rw [decide_eq_false h0];rfl
theorem QCm (a b:List Int) (ha:a.length < 1000) (hb:b.length < 1000):Qml [a,b]=some (a++b):=by
 have f0:Qff [a,b] (0,0)=some (.inl ((a.length:Int),1)):=by
  unfold Qff;simp only [show decide ((0:Int) < (([a,b]:List (List Int)).length:Int))=true from rfl,cond_true,show idx [a,b] (0:Int)=some a from rfl,Qp,Int.zero_add];rw [Zg (by omega),decide_eq_false (by omega)];rfl
 have f1:Qff [a,b] ((a.length:Int),1)=some (.inl (((a.length+b.length:Nat):Int),2)):=by
  unfold Qff;simp only [show decide ((1:Int) < (([a,b]:List (List Int)).length:Int))=true from rfl,cond_true,show idx [a,b] (1:Int)=some b from rfl,Qp];rw [Zg (by omega),decide_eq_false (by omega),show ((a.length:Int)+(b.length:Int))=((a.length+b.length:Nat):Int) by omega];rfl
 have f2:Qff [a,b] (((a.length+b.length:Nat):Int),2)=some (.inr ((a.length+b.length:Nat):Int)):=rfl;have g0:Qfg [a,b] ([],0)=some (.inl (a,1)):=by
  unfold Qfg;simp only [show decide ((0:Int) < (([a,b]:List (List Int)).length:Int))=true from rfl,cond_true,show idx [a,b] (0:Int)=some a from rfl,Qp];rw [Qae (by simp;omega)];rfl
 have g1:Qfg [a,b] (a,1)=some (.inl (a++b,2)):=by
  unfold Qfg;simp only [show decide ((1:Int) < (([a,b]:List (List Int)).length:Int))=true from rfl,cond_true,show idx [a,b] (1:Int)=some b from rfl,Qp];rw [Qae (by omega)];rfl
 have g2:Qfg [a,b] (a++b,2)=some (.inr (a++b)):=rfl;unfold Qml;rw [Qdh f0,Qdh f1,Qeu f2,Qp,QFv _ (by omega),Qp,Qdh g0,Qdh g1,Qeu g2,Qp]
/-! ### Events -/
def Qab (p:Ng) (n:Int):Bool:=decide (0<=n)&&decide (n<=(p.Na.length:Int) - 1)
def Qdr (p:Ng) (n:Int):Bool:=decide (0<=n)&&decide (n<=(p.Nb.length:Int) - 1)
def Qdn (p:Ng) (n:Int):Bool:=decide (0<=n)&&decide (n<=(p.Ni.length:Int) - 1)
def YW (n:Int):Bool:=decide (n=0)||decide (n=1)
def ZU (p:Ng) (e:Nq):Int :=
 if ¬ (0<=e.Kind/\e.Kind<=6) then 15 else if e.Kind=2 then (bif Qdr p e.A then (bif YW e.B then 0 else 2) else 6) else
 bif Qab p e.A then (if e.Kind=0 then (bif Yu p e.B then 0 else 6) else if e.Kind=1 then (bif Qdn p e.B then 0 else 6) else if e.B=0 then 0 else 3) else 6
theorem Qjx {n:Int} {k:Nat} (hk:k < 1000):Js n 0 (w64 ((k:Int) - 1))=some (decide (0<=n)&&decide (n<=(k:Int) - 1)):=by
 rw [Qsw,Zg (by omega)]
theorem Qyp {p:Ng} (h:PlantS p) (n:Int):Qgz p n=some (bif Yu p n then 0 else 6):=by
 unfold Qgz;rw [Qjx h.se,Qp,YC];rfl
theorem QRv {p:Ng} (h:PlantS p) (n:Int):Qkv p n=some (bif Qab p n then 0 else 6):=by
 unfold Qkv;rw [Qjx h.tr,Qp,YC];rfl
theorem QDw {p:Ng} (h:PlantS p) (e:Nq):Qgq p e=some (ZU p e):=by
  unfold Qgq ZU;rw [QGj,Qp];by_cases hk:0<=e.Kind/\e.Kind<=6
  · rw [if_neg (by omega),show (decide (0<=e.Kind)&&decide (e.Kind<=6))=true by simp [hk.1,hk.2]];simp only [Bool.not_true,cond_false];by_cases h2:e.Kind=2
    · rw [if_pos h2,decide_eq_true h2,cond_true,Qjx h.sw,Qp,YC,Qp,show Qep e.B=some (YW e.B) from rfl,Qp,YC,Qp,ZL _ (by simp),Qp];show some (ZM [bif Qdr p e.A then 0 else 6,_])=_;cases Qdr p e.A<;>cases YW e.B<;>rfl
    · rw [if_neg h2,decide_eq_false h2,cond_false,YC,Qp,Qyp h,Qp,Qjx h.ro,Qp,YC,Qp,QRv h];show (Option.bind (bif decide (e.Kind=0) then some (bif Yu p e.B then 0 else 6) else bif decide (e.Kind=1) then some (bif Qdn p e.B then 0 else 6) else some _) _)=_;by_cases h0:e.Kind=0
      · rw [if_pos h0,decide_eq_true h0,cond_true,Qp,Qp,ZL _ (by simp),Qp];cases Qab p e.A<;>cases Yu p e.B<;>rfl
      · rw [if_neg h0,decide_eq_false h0,cond_false];by_cases h1:e.Kind=1
        · rw [if_pos h1,decide_eq_true h1,cond_true,Qp,Qp,ZL _ (by simp),Qp];cases Qab p e.A<;>cases Qdn p e.B<;>rfl
        · rw [if_neg h1,decide_eq_false h1,cond_false,Qp,Qp,ZL _ (by simp),Qp];by_cases h3:e.B=0
          · rw [if_pos h3,decide_eq_true h3];cases Qab p e.A<;>rfl
          · rw [if_neg h3,decide_eq_false h3];cases Qab p e.A<;>rfl
  · rw [if_pos hk, show (decide (0 <= e.Kind) && decide (e.Kind <= 6)) = false by
      rw [Bool.and_eq_false_iff,decide_eq_false_iff_not,decide_eq_false_iff_not];omega]
    rfl
def ZZ (x:Nh) (e:Nq):Nk:=x.Na[e.A.toNat]?.getD ⟨[],0⟩
def Qfl (p:Ng) (e:Nq):Nt:=p.Nb[e.A.toNat]?.getD ⟨ByteArray.mk #[],0⟩
def JT (p:Ng) (e:Nq):Nn:=p.Ni[e.B.toNat]?.getD ⟨ByteArray.mk #[],[],[]⟩
def JV (p:Ng) (x:Nh) (e:Nq):Int :=
 if e.Kind=2 then (bif ZP x (Qfl p e).Nl then 17 else 0) else
 if e.Kind=0 then (if (ZZ x e).Nc.length=0 then (bif ZP x e.B then 17 else 0) else 22) else
 if (ZZ x e).Nc.length=0 then 22 else
 if e.Kind=1 then (if (JT p e).Nd.head?=(ZZ x e).Nc.getLast? then (bif ((JT p e).Nd.drop 1).any (ZP x) then 17 else bif Y0 p x.Nb (JT p e) (JT p e).Nd then 0 else 13) else 23) else
 if e.Kind=4 then (if 1 < (ZZ x e).Nf then 0 else 12) else
 if e.Kind=3\/e.Kind=5 then (if (ZZ x e).Nf < (ZZ x e).Nc.length then 0 else 12) else
 if (ZZ x e).Nc.length=1 then 0 else 17
def trX (p:Ng) (t:Nk) (e:Nq):Nk :=
 if e.Kind=0 then ⟨[e.B],1⟩ else if e.Kind=1 then ⟨t.Nc++(JT p e).Nd.drop 1,t.Nf⟩ else if e.Kind=3 then ⟨t.Nc,t.Nf+1⟩ else
 if e.Kind=4 then ⟨t.Nc.drop 1,t.Nf - 1⟩ else if e.Kind=5 then ⟨t.Nc.take (t.Nc.length - 1),t.Nf⟩ else ⟨[],0⟩
def Zx (p:Ng) (x:Nh) (e:Nq):Nh :=
 if e.Kind=2 then ⟨x.Nb.set e.A.toNat e.B,x.Na,x.Nj⟩ else ⟨x.Nb,x.Na.set e.A.toNat (trX p (ZZ x e) e),x.Nj⟩
end Go.Gw

end
section
set_option maxRecDepth 4096
namespace Go.Gw
open Go
attribute [local irreducible] loop
theorem Qgk {f:Nat->Int} {n:Nat} (h:XF f n=none):∀ j,j < n->f j=0:=by
 rcases Qjj f n with ⟨_,h2⟩ | ⟨i,h1,_⟩
 ·exact h2
 ·rw [h1] at h;cases h
theorem J5 {f:Nat->Int} {n i:Nat} (h:XF f n=some i):i < n/\f i≠0/\∀ j,j < i->f j=0:=by
 rcases Qjj f n with ⟨h1,_⟩ | ⟨j,h1,h2,h3,h4⟩
 ·rw [h1] at h;cases h
 ·rw [h1] at h;cases h;exact ⟨h2,h3,h4⟩
theorem QFi {f:Nat->Int} {n:Nat} (h:∀ j,j < n->f j=0):XF f n=none:=by
 cases hf:XF f n with
 | none=>rfl
 | some i=>obtain ⟨h1,h2,_⟩:=J5 hf;exact absurd (h i h1) h2
theorem Qxe {α:Type} {l:List α} (h:∀ k (hk:k < l.length),l[k]∉l.take k):l.Nodup:=by
 unfold List.Nodup;rw [List.pairwise_iff_getElem];intro i j hi hj hij e;refine h j hj ?_;rw [<-e];exact List.mem_take_iff_getElem.2 ⟨i,by omega,rfl⟩
theorem QMb {α:Type} {l:List α} (h:l.Nodup) {k:Nat} (hk:k < l.length):l[k]∉l.take k:=by
 intro hm;obtain ⟨i,hi,e⟩:=List.mem_take_iff_getElem.1 hm;unfold List.Nodup at h;rw [List.pairwise_iff_getElem] at h;exact h i k (by omega) hk (by omega) e
structure PlantOk (p:Ng):Prop where
 s1:1<=p.Nd.length
 s8:p.Nd.length<=8
 t1:1<=p.Na.length
 t3:p.Na.length<=3
 w4:p.Nb.length<=4
 r10:p.Ni.length<=10
 ws:∀ s∈p.Nb,Yu p s.Nl=true
 r2:∀ r∈p.Ni,2<=r.Nd.length
 r8:∀ r∈p.Ni,r.Nd.length<=p.Nd.length
 rs:∀ r∈p.Ni,∀ s∈r.Nd,Yu p s=true
 rd:∀ r∈p.Ni,r.Nd.Nodup
 rn:∀ r∈p.Ni,r.Nr.length=p.Nb.length
 rx:∀ r∈p.Ni,(r.Nr.zip p.Nb).any (Qaj r)=false
theorem Qfb {p:Ng} {r:Nn} (h:rtX p r=0):2<=r.Nd.length/\r.Nd.length<=p.Nd.length/\(∀ s∈r.Nd,Yu p s=true)/\r.Nd.Nodup/\r.Nr.length=p.Nb.length/\(r.Nr.zip p.Nb).any (Qaj r)=false:=by
 unfold rtX at h;by_cases h1:r.Nd.length < 2
 ·rw [if_pos h1] at h;cases h
 rw [if_neg h1] at h;by_cases h2:p.Nd.length < r.Nd.length
 ·rw [if_pos h2] at h;cases h
 rw [if_neg h2] at h;cases hf:XF (Jz p r) r.Nd.length with
 | some i=>rw [hf] at h;exact absurd h (J5 hf).2.1
 | none =>
  rw [hf] at h;have hz:∀ k (hk:k < r.Nd.length),rsE p r k r.Nd[k]=0:=fun k hk=>by
   have:=Qgk hf k hk;rwa [show Jz p r k=rsE p r k r.Nd[k] from ZV _ _ _ hk] at this
  have hz2:∀ k (hk:k < r.Nd.length),Yu p r.Nd[k]=true/\r.Nd[k]∉r.Nd.take k:=fun k hk=>by
   have:=hz k hk;unfold rsE at this;cases hb:Yu p r.Nd[k] with
   | false=>rw [hb] at this;cases this
   | true =>
    rw [hb,cond_true] at this;refine ⟨rfl,fun hm=>?_⟩;rw [decide_eq_true hm] at this;cases this
  have h3:r.Nr.length=p.Nb.length/\(r.Nr.zip p.Nb).any (Qaj r)=false:=by
   by_cases h5:r.Nr.length=p.Nb.length
   ·simp only [h5,if_true] at h;refine ⟨h5,?_⟩;cases hb:(r.Nr.zip p.Nb).any (Qaj r) with
    | false=>rfl
    | true=>rw [hb] at h;cases h
   ·simp only [h5,if_false] at h;cases h
  refine ⟨by omega,by omega,fun s hs=>?_,Qxe fun k hk=>(hz2 k hk).2,h3.1,h3.2⟩;obtain ⟨k,hk,rfl⟩:=List.getElem_of_mem hs;exact (hz2 k hk).1
theorem Qrb {p:Ng} (h:(Jx p).2=0):PlantOk p:=by
 unfold Jx at h;by_cases h1:p.Nd.length=0\/p.Na.length=0
 ·rw [if_pos h1] at h;cases h
 rw [if_neg h1] at h;by_cases h2:8 < p.Nd.length\/3 < p.Na.length\/4 < p.Nb.length\/10 < p.Ni.length
 ·rw [if_pos h2] at h;cases h
 rw [if_neg h2] at h;cases h3:XF (Zr p.Nd) p.Nd.length with
 | some i=>rw [h3] at h;exact absurd h (J5 h3).2.1
 | none =>
  rw [h3] at h;cases h4:XF (Zr p.Na) p.Na.length with
  | some i=>rw [h4] at h;exact absurd h (J5 h4).2.1
  | none =>
   rw [h4] at h;cases h5:XF (ZG p) p.Nb.length with
   | some i=>rw [h5] at h;exact absurd h (J5 h5).2.1
   | none =>
    rw [h5] at h;cases h6:XF (ZE p) p.Ni.length with
    | some i=>rw [h6] at h;exact absurd h (J5 h6).2.1
    | none =>
     have hr:∀ r∈p.Ni,rtX p r=0:=fun r hr=>by
      obtain ⟨k,hk,rfl⟩:=List.getElem_of_mem hr;have:=Qgk h6 k hk;rw [show ZE p k=rtE p k p.Ni[k] from ZV _ _ _ hk] at this;unfold rtE at this;by_cases hn:ZD p.Ni[k].Name ((p.Ni.take k).map (·.Name))=0
      ·rwa [if_pos hn] at this
      ·rw [if_neg hn] at this;exact absurd this hn
     refine ⟨by omega,by omega,by omega,by omega,by omega,by omega,fun s hs=>?_,fun r h=>(Qfb (hr r h)).1,fun r h=>(Qfb (hr r h)).2.1,fun r h=>(Qfb (hr r h)).2.2.1,fun r h=>(Qfb (hr r h)).2.2.2.1,fun r h=>(Qfb (hr r h)).2.2.2.2.1,fun r h=>(Qfb (hr r h)).2.2.2.2.2⟩;obtain ⟨k,hk,rfl⟩:=List.getElem_of_mem hs;have:=Qgk h5 k hk;rw [show ZG p k=swE p k p.Nb[k] from ZV _ _ _ hk] at this;unfold swE at this;by_cases hn:ZD p.Nb[k].Name ((p.Nb.take k).map (·.Name))=0
     ·rw [if_pos hn] at this;unfold swX at this;cases hb:Yu p p.Nb[k].Nl with
      | true=>rfl
      | false=>rw [hb] at this;cases this
     ·rw [if_neg hn] at this;exact absurd this hn
def ZX (r:Nn) (a b:Int):Bool:=(r.Nd.zip (r.Nd.drop 1)).any fun q=>decide (q.1=a)&&decide (q.2=b)
def JO (p:Ng) (sw:List Int) (a b:Int):Bool:=p.Ni.any fun r=>ZX r a b&&Y0 p sw r [a,b]
theorem pairB_iff {r:Nn} {a b:Int}:ZX r a b=true↔∃ k,∃ hk:k+1 < r.Nd.length,r.Nd[k]=a/\r.Nd[k+1]=b:=by
 unfold ZX;rw [List.any_eq_true];constructor
 ·rintro ⟨q,hq,h⟩;obtain ⟨k,hk,rfl⟩:=List.getElem_of_mem hq;simp only [List.length_zip,List.length_drop] at hk;simp only [List.getElem_zip,List.getElem_drop,Bool.and_eq_true,decide_eq_true_eq] at h;refine ⟨k,by omega,h.1,?_⟩;rw [<-h.2];congr 1;omega
 ·rintro ⟨k,hk,h1,h2⟩;refine ⟨(r.Nd[k],r.Nd[k+1]),?_,by simp [h1,h2]⟩;rw [List.mem_iff_getElem];refine ⟨k,by simp only [List.length_zip,List.length_drop];omega,?_⟩;simp only [List.getElem_zip,List.getElem_drop,Prod.mk.injEq,true_and];congr 1;omega
structure StateOk (p:Ng) (x:Nh):Prop where
 sw:x.Nb.length=p.Nb.length
 tr:x.Na.length=p.Na.length
 pos:∀ n∈x.Nb,YW n=true
 cnt:Qau x.Nj=true
 un:∀ t∈x.Na,(t.Nc=[]/\t.Nf=0)\/(1<=t.Nf/\t.Nf<=t.Nc.length)
 sc:∀ t∈x.Na,∀ s∈t.Nc,Yu p s=true
 nd:∀ t∈x.Na,t.Nc.Nodup
 dj:∀ i j (hi:i < x.Na.length) (hj:j < x.Na.length),i≠j->∀ s∈x.Na[i].Nc,s∉x.Na[j].Nc
 ld:∀ t∈x.Na,∀ k (hk:k+1 < t.Nc.length),JO p x.Nb t.Nc[k] t.Nc[k+1]=true
theorem Qxd:∀ (n:Nat) (l:List Int),l.Nodup->(∀ s∈l,0<=s/\s < (n:Int))->l.length<=n
  | 0,l,_,h=>by
    cases l with
    | nil=>simp
    | cons x xs=>have:=h x (by simp);omega
  | n+1,l,hn,h=>by
    have h1:=Qxd n (l.filter fun s=>decide (s≠(n:Int))) (hn.filter _) fun s hs=>by
      rw [List.mem_filter] at hs;have:=h s hs.1;have:=hs.2;simp at this;omega
    have h2:l.length<=(l.filter fun s=>decide (s≠(n:Int))).length+1:=by
      clear h h1
      induction l with
      | nil=>simp
      | cons x xs ih =>
        rw [List.nodup_cons] at hn;by_cases hx:x=(n:Int)
        · have : xs.filter (fun s => decide (s ≠ (n : Int))) = xs := by
            rw [List.filter_eq_self];intro a ha;simp only [ne_eq,decide_not,Bool.not_eq_true',decide_eq_false_iff_not];intro e;subst hx;subst e;exact hn.1 ha
          rw [List.filter_cons_of_neg (by simp [hx]),this];simp
        · rw [List.filter_cons_of_pos (by simp [hx])];have:=ih hn.2;simp only [List.length_cons];omega
    omega
theorem StateOk.len {p:Ng} {x:Nh} (h:StateOk p x) {t:Nk} (ht:t∈x.Na):t.Nc.length<=p.Nd.length :=
 Qxd _ _ (h.nd t ht) fun s hs=>by
  have:=h.sc t ht s hs;unfold Yu at this;simp at this;omega
theorem StateOk.s {p:Ng} (hp:PlantOk p) {x:Nh} (h:StateOk p x):StateS x :=
 ⟨by have:=h.sw;have:=hp.w4;omega,by have:=h.tr;have:=hp.t3;omega,fun t ht=>by have:=h.len ht;have:=hp.s8;omega⟩
end Go.Gw

end
section
set_option maxRecDepth 4096
namespace Go.Gw
open Go
attribute [local irreducible] loop
theorem liesB_iff {p:Ng} {sw:List Int} {r:Nn} {secs:List Int}:Y0 p sw r secs=true↔∀ k (h1:k < p.Nb.length) (h2:k < r.Nr.length) (h3:k < sw.length),p.Nb[k].Nl∈secs->r.Nr[k]=sw[k]:=by
  unfold Y0;rw [Bool.not_eq_true',List.any_eq_false];constructor
  · intro h k h1 h2 h3 hm;have:=h (p.Nb[k],(r.Nr[k],sw[k])) (by
      rw [List.mem_iff_getElem];exact ⟨k,by simp only [List.length_zip];omega,by simp only [List.getElem_zip]⟩)
    simp only [Qdf,hm,decide_true,Bool.true_and,Bool.not_eq_true',decide_eq_false_iff_not,Decidable.not_not] at this;exact this
  · intro h q hq;obtain ⟨k,hk,rfl⟩:=List.getElem_of_mem hq;simp only [List.length_zip] at hk;simp only [List.getElem_zip,Qdf,Bool.and_eq_true,decide_eq_true_eq,Bool.not_eq_true',decide_eq_false_iff_not,not_and,Decidable.not_not];exact fun hm=>h k (by omega) (by omega) (by omega) hm
theorem QGz {p:Ng} {sw:List Int} {r:Nn} {a b:List Int} (h:Y0 p sw r a=true) (hs:∀ s∈b,s∈a):Y0 p sw r b=true :=
 liesB_iff.2 fun k h1 h2 h3 hm=>liesB_iff.1 h k h1 h2 h3 (hs _ hm)
theorem QHa {p:Ng} {sw:List Int} {r:Nn} {a:List Int} {i:Nat} {v:Int} (hi:∀ h:i < p.Nb.length,p.Nb[i].Nl∉a) (h:Y0 p sw r a=true):Y0 p (sw.set i v) r a=true :=
 liesB_iff.2 fun k h1 h2 h3 hm=>by
  have hne:i≠k:=fun e=>by subst e;exact hi h1 hm
  rw [List.getElem_set_ne hne];exact liesB_iff.1 h k h1 h2 (by simpa using h3) hm
theorem leadsB_iff {p:Ng} {sw:List Int} {a b:Int}:JO p sw a b=true↔∃ r∈p.Ni,ZX r a b=true/\Y0 p sw r [a,b]=true:=by
 unfold JO;rw [List.any_eq_true];simp only [Bool.and_eq_true]
theorem Qsi {x:Nh} {s:Int} (h:ZP x s=false):∀ t∈x.Na,s∉t.Nc:=by
 unfold ZP at h;rw [List.any_eq_false] at h;intro t ht hm;exact h t ht (decide_eq_true hm)
theorem Qfe {p:Ng} {x:Nh} (h:StateOk p x) {a:Nat} (ha:a < x.Na.length) {t:Nk} (h1:(t.Nc=[]/\t.Nf=0)\/(1<=t.Nf/\t.Nf<=t.Nc.length)) (h2:∀ s∈t.Nc,Yu p s=true) (h3:t.Nc.Nodup)
  (h4:∀ j (hj:j < x.Na.length),j≠a->∀ s∈t.Nc,s∉x.Na[j].Nc) (h5:∀ k (hk:k+1 < t.Nc.length),JO p x.Nb t.Nc[k] t.Nc[k+1]=true):StateOk p ⟨x.Nb,x.Na.set a t,x.Nj⟩:=by
 have hm:∀ u∈x.Na.set a t,u=t\/u∈x.Na:=fun u hu=>by
  rcases List.mem_or_eq_of_mem_set hu with h | h
  ·exact .inr h
  ·exact .inl h
 refine ⟨h.sw,by simpa using h.tr,h.pos,h.cnt,fun u hu=>?_,fun u hu=>?_,fun u hu=>?_,fun i j hi hj hij s hs=>?_,fun u hu=>?_⟩
 ·rcases hm u hu with rfl | hu
  ·exact h1
  ·exact h.un u hu
 ·rcases hm u hu with rfl | hu
  ·exact h2
  ·exact h.sc u hu
 ·rcases hm u hu with rfl | hu
  ·exact h3
  ·exact h.nd u hu
 ·simp only [List.length_set] at hi hj;simp only [List.getElem_set] at hs ⊢;by_cases h6:a=i
  ·rw [if_pos h6] at hs;rw [if_neg (by omega)];exact h4 j hj (by omega) s hs
  ·rw [if_neg h6] at hs;by_cases h7:a=j
   ·rw [if_pos h7];exact fun hm=>h4 i hi (by omega) s hm hs
   ·rw [if_neg h7];exact h.dj i j hi hj hij s hs
 ·rcases hm u hu with rfl | hu
  ·exact h5
  ·exact h.ld u hu
theorem Qgj {p:Ng} {e:Nq} (h:ZU p e=0):0<=e.Kind/\e.Kind<=6:=by
 unfold ZU at h;by_cases h1:¬ (0<=e.Kind/\e.Kind<=6)
 ·rw [if_pos h1] at h;cases h
 ·omega
theorem Quq {p:Ng} {e:Nq} (h:ZU p e=0) (hk:e.Kind=2):0<=e.A/\e.A.toNat < p.Nb.length/\YW e.B=true:=by
 have h1:=Qgj h;unfold ZU at h;rw [if_neg (by omega),if_pos hk] at h;cases hb:Qdr p e.A with
 | false=>rw [hb] at h;cases h
 | true =>
  rw [hb] at h;cases hc:YW e.B with
  | false=>rw [hc] at h;cases h
  | true =>
   unfold Qdr at hb;simp at hb;exact ⟨hb.1,by omega,rfl⟩
theorem Qji {p:Ng} {e:Nq} (h:ZU p e=0) (hk:e.Kind≠2):0<=e.A/\e.A.toNat < p.Na.length/\(e.Kind=0->Yu p e.B=true)/\(e.Kind=1->0<=e.B/\e.B.toNat < p.Ni.length)/\(e.Kind≠0->e.Kind≠1->e.B=0):=by
 have h1:=Qgj h;unfold ZU at h;rw [if_neg (by omega),if_neg hk] at h;cases hb:Qab p e.A with
 | false=>rw [hb] at h;cases h
 | true =>
  rw [hb,cond_true] at h;unfold Qab at hb;simp at hb;refine ⟨hb.1,by omega,fun h0=>?_,fun h0=>?_,fun h0 h2=>?_⟩
  ·rw [if_pos h0] at h;cases hc:Yu p e.B with
   | true=>rfl
   | false=>rw [hc] at h;cases h
  ·rw [if_neg (by omega),if_pos h0] at h;cases hc:Qdn p e.B with
   | false=>rw [hc] at h;cases h
   | true=>unfold Qdn at hc;simp at hc;omega
  ·rw [if_neg h0,if_neg h2] at h;by_cases h3:e.B=0
   ·exact h3
   ·rw [if_neg h3] at h;cases h
theorem Qfo {x:Nh} {e:Nq} (h:e.A.toNat < x.Na.length):ZZ x e=x.Na[e.A.toNat]:=by
 unfold ZZ;rw [List.getElem?_eq_getElem h];rfl
theorem Qzi {p:Ng} {e:Nq} (h:e.A.toNat < p.Nb.length):Qfl p e=p.Nb[e.A.toNat]:=by
 unfold Qfl;rw [List.getElem?_eq_getElem h];rfl
theorem Qme {p:Ng} {e:Nq} (h:e.B.toNat < p.Ni.length):JT p e=p.Ni[e.B.toNat]:=by
 unfold JT;rw [List.getElem?_eq_getElem h];rfl
theorem Qse {p:Ng} (hp:PlantOk p) {x:Nh} (h:StateOk p x) {e:Nq} (he:ZU p e=0) (hs:JV p x e=0):StateOk p (Zx p x e):=by
  have hk:=Qgj he;unfold Zx;by_cases h2:e.Kind=2
  · rw [if_pos h2];obtain ⟨a0,a1,a2⟩:=Quq he h2;unfold JV at hs;rw [if_pos h2] at hs;have hn:ZP x (Qfl p e).Nl=false:=by
      cases hb:ZP x (Qfl p e).Nl with
      | false=>rfl
      | true=>rw [hb] at hs;cases hs
    rw [Qzi a1] at hn;refine ⟨by simpa using h.sw,h.tr,fun n hn=>?_,h.cnt,h.un,h.sc,h.nd,h.dj,fun t ht k hk=>?_⟩
    · rcases List.mem_or_eq_of_mem_set hn with h3 | rfl
      · exact h.pos n h3
      · exact a2
    · obtain ⟨r,hr,h3,h4⟩:=leadsB_iff.1 (h.ld t ht k hk);refine leadsB_iff.2 ⟨r,hr,h3,QHa (fun hi hm=>?_) h4⟩;have h5:=Qsi hn t ht;rcases List.mem_cons.1 hm with e1 | hm
      · rw [e1] at h5;exact h5 (List.getElem_mem _)
      · rw [List.mem_singleton.1 hm] at h5;exact h5 (List.getElem_mem _)
  rw [if_neg h2];obtain ⟨a0,a1,a2,a3,a4⟩:=Qji he h2;have ha:e.A.toNat < x.Na.length:=by rw [h.tr];exact a1
  have ht:ZZ x e∈x.Na:=by rw [Qfo ha];exact List.getElem_mem ha
  have hd:∀ j (hj:j < x.Na.length),j≠e.A.toNat->∀ s∈(ZZ x e).Nc,s∉x.Na[j].Nc:=fun j hj hne s hs=>by
    rw [Qfo ha] at hs;exact h.dj _ j ha hj (by omega) s hs
  have hu:=h.un _ ht;have hsc:=h.sc _ ht;have hnd:=h.nd _ ht;have hld:=h.ld _ ht;unfold JV at hs;rw [if_neg h2] at hs;unfold trX;generalize ZZ x e=t at *
  by_cases h0:e.Kind=0
  · rw [if_pos h0] at hs;rw [if_pos h0];by_cases hc:t.Nc.length=0
    · rw [if_pos hc] at hs;have hn:ZP x e.B=false:=by
        cases hb:ZP x e.B with
        | false=>rfl
        | true=>rw [hb] at hs;cases hs
      refine Qfe h ha (.inr (by simp)) (fun s hs=>?_) (by simp) (fun j hj hne s hs hm=>?_) (fun k hk=>?_)
      · simp only [List.mem_singleton] at hs;subst hs;exact a2 h0
      · simp only [List.mem_singleton] at hs;subst hs;exact Qsi hn _ (List.getElem_mem hj) hm
      · simp at hk
    · rw [if_neg hc] at hs;cases hs
  rw [if_neg h0] at hs;rw [if_neg h0];by_cases hc:t.Nc.length=0
  · rw [if_pos hc] at hs;cases hs
  rw [if_neg hc] at hs;have hu2:1<=t.Nf/\t.Nf<=t.Nc.length:=by
    rcases hu with ⟨h3,_⟩ | h3
    · rw [h3] at hc;exact absurd rfl hc
    · exact h3
  by_cases h1:e.Kind=1
  · rw [if_pos h1] at hs;rw [if_pos h1];obtain ⟨b0,b1⟩:=a3 h1;have hr:JT p e∈p.Ni:=by rw [Qme b1];exact List.getElem_mem b1
    generalize JT p e=r at *
    by_cases h3:r.Nd.head?=t.Nc.getLast?
    · rw [if_pos h3] at hs;have hn:(r.Nd.drop 1).any (ZP x)=false:=by
        cases hb:(r.Nd.drop 1).any (ZP x) with
        | false=>rfl
        | true=>rw [hb] at hs;cases hs
      have hl:Y0 p x.Nb r r.Nd=true:=by
        rw [hn] at hs;cases hb:Y0 p x.Nb r r.Nd with
        | true=>rfl
        | false=>rw [hb] at hs;cases hs
      rw [List.any_eq_false] at hn;have hn2:∀ s∈r.Nd.drop 1,∀ u∈x.Na,s∉u.Nc:=fun s hs=>Qsi (by have:=hn s hs;simpa using this)
      have h2r:=hp.r2 r hr;have hlast:∀ hi:t.Nc.length - 1 < t.Nc.length,∀ hj:0 < r.Nd.length,t.Nc[t.Nc.length - 1]=r.Nd[0]:=fun hi hj=>by
        rw [List.head?_eq_getElem?,List.getLast?_eq_getElem?,List.getElem?_eq_getElem hj,List.getElem?_eq_getElem hi] at h3;exact (Option.some.inj h3).symm
      refine Qfe h ha (.inr ?_) (fun s hs=>?_) ?_ (fun j hj hne s hs=>?_) (fun k hk=>?_)
      · simp only [List.length_append];omega
      · rcases List.mem_append.1 hs with h4 | h4
        · exact hsc s h4
        · exact hp.rs r hr s (List.mem_of_mem_drop h4)
      · show (t.Nc++r.Nd.drop 1).Nodup;rw [List.nodup_append];refine ⟨hnd,List.Nodup.sublist (List.drop_sublist _ _) (hp.rd r hr),fun s hs u hu e=>?_⟩;subst e;exact hn2 s hu t ht hs
      · rcases List.mem_append.1 hs with h4 | h4
        · exact hd j hj hne s h4
        · exact hn2 s h4 _ (List.getElem_mem hj)
      · simp only [List.length_append,List.length_drop] at hk;by_cases h5:k+1 < t.Nc.length
        · simp only [List.getElem_append,h5,dif_pos,show k < t.Nc.length by omega];exact hld k h5
        · have e2 : (t.Nc ++ r.Nd.drop 1)[k + 1]'(by simp only [List.length_append, List.length_drop]; omega) = r.Nd[k + 1 - t.Nc.length + 1]'(by omega) := by
            rw [List.getElem_append_right (by omega),List.getElem_drop];congr 1;omega
          have e1:(t.Nc++r.Nd.drop 1)[k]'(by simp only [List.length_append, List.length_drop];omega)=r.Nd[k+1 - t.Nc.length]'(by omega) := by
            by_cases h6:k+1=t.Nc.length
            · rw [List.getElem_append_left (show k < t.Nc.length by omega)];have:=hlast (by omega) (by omega);simp only [show k+1 - t.Nc.length=0 by omega,<-this];congr 1;omega
            · rw [List.getElem_append_right (by omega),List.getElem_drop];congr 1;omega
          rw [e1,e2];refine leadsB_iff.2 ⟨r,hr,pairB_iff.2 ⟨k+1 - t.Nc.length,by omega,rfl,rfl⟩,QGz hl fun s hs=>?_⟩;rcases List.mem_cons.1 hs with rfl | hs
          · exact List.getElem_mem _
          · rw [List.mem_singleton.1 hs];exact List.getElem_mem _
    · rw [if_neg h3] at hs;cases hs
  rw [if_neg h1] at hs;rw [if_neg h1];by_cases h4:e.Kind=4
  · rw [if_pos h4] at hs;rw [if_neg (by omega),if_pos h4];have hx:1 < t.Nf:=by
      by_cases h5:1 < t.Nf
      · exact h5
      · rw [if_neg h5] at hs;cases hs
    refine Qfe h ha (.inr ?_) (fun s hs=>hsc s (List.mem_of_mem_drop hs)) (List.Nodup.sublist (List.drop_sublist _ _) hnd) (fun j hj hne s hs=>hd j hj hne s (List.mem_of_mem_drop hs)) (fun k hk=>?_)
    · simp only [List.length_drop];omega
    · simp only [List.length_drop] at hk;simp only [List.getElem_drop];have:=hld (1+k) (by omega);exact this
  rw [if_neg h4] at hs;rw [show (if e.Kind=4 then (⟨t.Nc.drop 1,t.Nf - 1⟩:Nk) else if e.Kind=5 then ⟨t.Nc.take (t.Nc.length - 1),t.Nf⟩ else ⟨[],0⟩)=(if e.Kind=5 then ⟨t.Nc.take (t.Nc.length - 1),t.Nf⟩ else ⟨[],0⟩) from if_neg h4];by_cases h35:e.Kind=3\/e.Kind=5
  · rw [if_pos h35] at hs;have hx:t.Nf < t.Nc.length:=by
      by_cases h5:t.Nf < t.Nc.length
      · exact h5
      · rw [if_neg h5] at hs;cases hs
    by_cases h3:e.Kind=3
    · rw [if_pos h3];exact Qfe h ha (.inr ⟨by show 1<=t.Nf+1;omega,by show t.Nf+1<=(t.Nc.length:Int);omega⟩) hsc hnd hd hld
    · rw [if_neg h3,if_pos (by omega)];refine Qfe h ha (.inr ?_) (fun s hs=>hsc s (List.mem_of_mem_take hs)) (List.Nodup.sublist (List.take_sublist _ _) hnd) (fun j hj hne s hs=>hd j hj hne s (List.mem_of_mem_take hs)) (fun k hk=>?_)
      · simp only [List.length_take];omega
      · simp only [List.length_take] at hk;simp only [List.getElem_take];exact hld k (by omega)
  · rw [if_neg (by omega),if_neg (by omega)];exact Qfe h ha (.inl ⟨rfl,rfl⟩) (fun s hs=>by simp at hs) (by simp) (fun j hj hne s hs=>by simp at hs) (fun k hk=>by simp at hk)
end Go.Gw

end
section
set_option maxRecDepth 4096
namespace Go.Gw
open Go
attribute [local irreducible] loop
def chE (p:Ng) (x:Nh) (n:Nat) (t:Nk) (k:Nat) (s:Int):Int :=
 bif Yu p s then (bif decide (s∈t.Nc.take k)||(x.Na.take n).any (fun o=>decide (s∈o.Nc)) then 17 else if k=0 then 0 else bif JO p x.Nb (t.Nc[k - 1]?.getD 0) s then 0 else 23) else 6
def Jg (p:Ng) (x:Nh) (n:Nat) (t:Nk) (k:Nat):Int:=(t.Nc[k]?.map (chE p x n t k)).getD 0
def JX (t:Nk):Bool:=if t.Nc.length=0 then decide (t.Nf=0) else decide (1<=t.Nf)&&decide (t.Nf<=t.Nc.length)
def tsE (p:Ng) (x:Nh) (n:Nat) (t:Nk):Int:=bif JX t then (match XF (Jg p x n t) t.Nc.length with | some k=>Jg p x n t k | none=>0) else 3
def JB (p:Ng) (x:Nh) (n:Nat):Int:=(x.Na[n]?.map (tsE p x n)).getD 0
def Qfi (p:Ng) (x:Nh):Int :=
 if x.Nb.length=p.Nb.length/\x.Na.length=p.Na.length then
  (bif x.Nb.all YW&&Qau x.Nj then (match XF (JB p x) x.Na.length with | some k=>JB p x k | none=>0) else 2) else 10
theorem tsE_zero {p:Ng} {x:Nh} {n:Nat} {t:Nk}:tsE p x n t=0↔JX t=true/\∀ k (hk:k < t.Nc.length),chE p x n t k t.Nc[k]=0:=by
 unfold tsE;cases hu:JX t with
 | false=>simp
 | true =>
  simp only [cond_true,true_and];have hg:∀ k (hk:k < t.Nc.length),Jg p x n t k=chE p x n t k t.Nc[k]:=fun k hk=>ZV _ _ _ hk
  cases hf:XF (Jg p x n t) t.Nc.length with
  | some k =>
   obtain ⟨h1,h2,_⟩:=J5 hf;constructor
   ·intro h;exact absurd h h2
   ·intro h;exact absurd ((hg k h1).trans (h k h1)) h2
  | none=>exact ⟨fun _ k hk=>(hg k hk).symm.trans (Qgk hf k hk),fun _=>rfl⟩
theorem chE_zero {p:Ng} {x:Nh} {n:Nat} {t:Nk} {k:Nat} {s:Int}:chE p x n t k s=0↔Yu p s=true/\s∉t.Nc.take k/\(∀ o∈x.Na.take n,s∉o.Nc)/\(k≠0->JO p x.Nb (t.Nc[k - 1]?.getD 0) s=true):=by
  unfold chE;cases Yu p s with
  | false=>simp
  | true =>
    simp only [cond_true,true_and];by_cases h1:s∈t.Nc.take k
    · simp [h1]
    by_cases h2:∀ o∈x.Na.take n,s∉o.Nc
    · have h3 : (x.Na.take n).any (fun o => decide (s ∈ o.Nc)) = false := by
        rw [List.any_eq_false];intro o ho hm;exact h2 o ho (of_decide_eq_true hm)
      rw [h3,decide_eq_false h1];by_cases hk:k=0
      · simp [hk];exact h2
      · simp only [Bool.or_false,cond_false,if_neg hk];cases JO p x.Nb (t.Nc[k - 1]?.getD 0) s with
        | false=>simp [hk]
        | true=>simp [h1];exact h2
    · have h3 : (x.Na.take n).any (fun o => decide (s ∈ o.Nc)) = true := by
        cases hb:(x.Na.take n).any (fun o=>decide (s∈o.Nc)) with
        | true=>rfl
        | false =>
          rw [List.any_eq_false] at hb;exact absurd (fun o ho hm=>hb o ho (decide_eq_true hm)) h2
      rw [h3,Bool.or_true];simp [h2]
theorem undB_iff {t:Nk}:JX t=true↔(t.Nc=[]/\t.Nf=0)\/(1<=t.Nf/\t.Nf<=t.Nc.length):=by
 unfold JX;by_cases h:t.Nc.length=0
 ·rw [if_pos h];have h2:t.Nc=[]:=List.length_eq_zero_iff.1 h;simp only [decide_eq_true_eq];constructor
  ·intro h3;exact .inl ⟨h2,h3⟩
  ·rintro (h3 | h3)
   ·exact h3.2
   ·omega
 ·rw [if_neg h];simp only [Bool.and_eq_true,decide_eq_true_eq];constructor
  ·intro h3;exact .inr h3
  ·rintro (h3 | h3)
   ·rw [h3.1] at h;exact absurd rfl h
   ·exact h3
theorem state_iff {p:Ng} {x:Nh}:Qfi p x=0↔StateOk p x:=by
  have hg:∀ k (hk:k < x.Na.length),JB p x k=tsE p x k x.Na[k]:=fun k hk=>ZV _ _ _ hk
  unfold Qfi;constructor
  · intro h;by_cases h1:x.Nb.length=p.Nb.length/\x.Na.length=p.Na.length
    · rw [if_pos h1] at h;cases h2:x.Nb.all YW&&Qau x.Nj with
      | false=>rw [h2] at h;cases h
      | true =>
        rw [h2,cond_true] at h;rw [Bool.and_eq_true,List.all_eq_true] at h2;cases hf:XF (JB p x) x.Na.length with
        | some k=>rw [hf] at h;exact absurd h (J5 hf).2.1
        | none =>
          have hz:∀ n (hn:n < x.Na.length),JX x.Na[n]=true/\∀ k (hk:k < x.Na[n].Nc.length),chE p x n x.Na[n] k x.Na[n].Nc[k]=0:=fun n hn=>tsE_zero.1 ((hg n hn).symm.trans (Qgk hf n hn))
          refine ⟨h1.1,h1.2,h2.1,h2.2,fun t ht=>?_,fun t ht s hs=>?_,fun t ht=>?_,fun i j hi hj hij s hs hm=>?_,fun t ht k hk=>?_⟩
          · obtain ⟨n,hn,rfl⟩:=List.getElem_of_mem ht;exact undB_iff.1 (hz n hn).1
          · obtain ⟨n,hn,rfl⟩:=List.getElem_of_mem ht;obtain ⟨k,hk,rfl⟩:=List.getElem_of_mem hs;exact (chE_zero.1 ((hz n hn).2 k hk)).1
          · obtain ⟨n,hn,rfl⟩:=List.getElem_of_mem ht;exact Qxe fun k hk=>(chE_zero.1 ((hz n hn).2 k hk)).2.1
          · rcases Nat.lt_or_gt_of_ne hij with h3 | h3
            · obtain ⟨k,hk,rfl⟩:=List.getElem_of_mem hm;exact (chE_zero.1 ((hz j hj).2 k hk)).2.2.1 _ (List.mem_take_iff_getElem.2 ⟨i,by omega,rfl⟩) hs
            · obtain ⟨k,hk,rfl⟩:=List.getElem_of_mem hs;exact (chE_zero.1 ((hz i hi).2 k hk)).2.2.1 _ (List.mem_take_iff_getElem.2 ⟨j,by omega,rfl⟩) hm
          · obtain ⟨n,hn,rfl⟩:=List.getElem_of_mem ht;have:=(chE_zero.1 ((hz n hn).2 (k+1) hk)).2.2.2 (by omega);rwa [Nat.add_sub_cancel,List.getElem?_eq_getElem (show k < x.Na[n].Nc.length by omega),Option.getD_some] at this
    · rw [if_neg h1] at h;cases h
  · intro h;rw [if_pos ⟨h.sw,h.tr⟩,show (x.Nb.all YW&&Qau x.Nj)=true by rw [Bool.and_eq_true,List.all_eq_true];exact ⟨h.pos,h.cnt⟩,cond_true];rw [QFi fun n hn=>by
      rw [hg n hn,tsE_zero];have ht:=List.getElem_mem hn;refine ⟨undB_iff.2 (h.un _ ht),fun k hk=>chE_zero.2 ⟨h.sc _ ht _ (List.getElem_mem hk),QMb (h.nd _ ht) hk,fun o ho hm=>?_,fun hk0=>?_⟩⟩
      · obtain ⟨i,hi,rfl⟩:=List.mem_take_iff_getElem.1 ho;exact h.dj i n (by omega) hn (by omega) _ hm (List.getElem_mem hk)
      · rw [List.getElem?_eq_getElem (show k - 1 < x.Na[n].Nc.length by omega),Option.getD_some];have:=h.ld _ ht (k - 1) (by omega);simp only [show k - 1+1=k by omega] at this;exact this]
end Go.Gw

end
section
set_option maxRecDepth 4096
namespace Go.Gw
open Go
attribute [local irreducible] loop
theorem QGa {a b:List Int} (ha:0 < a.length) (hb:0 < b.length):decide (a[0]=b[b.length - 1])=decide (a.head?=b.getLast?):=by
 rw [List.head?_eq_getElem?,List.getLast?_eq_getElem?,List.getElem?_eq_getElem ha,List.getElem?_eq_getElem (show b.length - 1 < b.length by omega)];simp only [Option.some.injEq]
theorem QBr {p:Ng} (hp:PlantOk p) {x:Nh} (h:StateOk p x) {e:Nq} (he:ZU p e=0) :
    Runs (Qeq (some ⟨p,x⟩) e) fun r=>r.2=JV p x e/\(JV p x e=0->r.1=some ⟨p,Zx p x e⟩):=by
  have hs:=h.s hp;have hw4:=hp.w4;have ht3:=hp.t3;have hkd:=Qgj he;have hsl:=h.sw;have htl:=h.tr;unfold Qeq;by_cases h2:e.Kind=2
  · obtain ⟨a0,a1,a2⟩:=Quq he h2;have e1:JV p x e=(bif ZP x (Qfl p e).Nl then 17 else 0):=by unfold JV;rw [if_pos h2]
    have e2:Zx p x e=⟨x.Nb.set e.A.toNat e.B,x.Na,x.Nj⟩:=by unfold Zx;rw [if_pos h2]
    rw [e1,e2,Qzi a1,decide_eq_true h2,cond_true,Qp];show Runs (Option.bind (idx p.Nb e.A) _) _;rw [Qgn a0 a1,Qp,Qsj p hs _ (by simp),Qp];simp only [List.any_cons,List.any_nil,Bool.or_false];cases ZP x p.Nb[e.A.toNat].Nl with
    | true=>exact Runs.some ⟨rfl,fun hh=>by cases hh⟩
    | false =>
      simp only [cond_false];rw [Qom _ (by show x.Nb.length < _;omega),Qp];show Runs (Option.bind (idx x.Nb e.A) _) _;rw [Qgn a0 (by omega),Qp];exact Runs.some ⟨rfl,fun _=>rfl⟩
  obtain ⟨a0,a1,a2,a3,a4⟩:=Qji he h2;have ha:e.A.toNat < x.Na.length:=by omega
  have htm:ZZ x e∈x.Na:=by rw [Qfo ha];exact List.getElem_mem ha
  have hcl:=h.len htm;have hs8:=hp.s8;have hu:=h.un _ htm;have e2:Zx p x e=⟨x.Nb,x.Na.set e.A.toNat (trX p (ZZ x e) e),x.Nj⟩:=by unfold Zx;rw [if_neg h2]
  have hnx:=fun c u=>QJp p x a0 ha (by omega) c u
  rw [e2,decide_eq_false h2,cond_false,Qp];show Runs (Option.bind (idx x.Na e.A) _) _;rw [Qgn a0 ha,Qp,<-Qfo ha];unfold JV trX;simp only [if_neg h2];generalize ZZ x e=t at *
  by_cases h0:e.Kind=0
  · simp only [if_pos h0,decide_eq_true h0,cond_true];rw [YC,Qp,Qsj p hs _ (by simp),Qp,YC,Qp,ZL _ (by simp),Qp,Qp];simp only [List.any_cons,List.any_nil,Bool.or_false,QFt];by_cases hc:t.Nc.length=0
    · simp only [hc,Int.natCast_zero,decide_true,cond_true,ne_eq,not_true_eq_false,if_false,if_true];cases ZP x e.B with
      | true=>exact Runs.some ⟨rfl,fun hh=>by cases hh⟩
      | false =>
        simp only [Bool.not_false,cond_true,decide_true,Bool.not_true,cond_false];rw [hnx,Qp];exact Runs.some ⟨rfl,fun _=>rfl⟩
    · rw [if_neg hc,decide_eq_false (show ¬ (t.Nc.length:Int)=0 by omega)];exact Runs.some ⟨rfl,fun hh=>by cases hh⟩
  simp only [if_neg h0,decide_eq_false h0,cond_false];by_cases hc:t.Nc.length=0
  · rw [decide_eq_true (show (t.Nc.length:Int)=0 by omega),if_pos hc];exact Runs.some ⟨rfl,fun hh=>by cases hh⟩
  rw [decide_eq_false (show ¬ (t.Nc.length:Int)=0 by omega),cond_false,YC,Qp,if_neg hc];have hu2:1<=t.Nf/\t.Nf<=t.Nc.length:=by
    rcases hu with ⟨h3,_⟩ | h3
    · rw [h3] at hc;exact absurd rfl hc
    · exact h3
  by_cases h1:e.Kind=1
  · simp only [if_pos h1,decide_eq_true h1,cond_true];obtain ⟨b0,b1⟩:=a3 h1;rw [show (⟨p,x⟩:Nm).Nx.Ni=p.Ni from rfl,Qgn b0 b1,Qp,<-Qme b1];have hr:JT p e∈p.Ni:=by rw [Qme b1];exact List.getElem_mem b1
    generalize JT p e=r at *
    have hr2:=hp.r2 r hr;have hr8:=hp.r8 r hr;have hrn:=hp.rn r hr;rw [Qoo (by omega),Qp,show (0:Int)=((0:Nat):Int) from rfl,XE (show 0 < r.Nd.length by omega),Qp,
      show w64 ((t.Nc.length:Int) - 1)=((t.Nc.length - 1:Nat):Int) by rw [Zg (by omega)];omega,XE (show t.Nc.length - 1 < t.Nc.length by omega),Qp,YC,Qp,
      Qsj p hs _ (by simp;omega),Qp,YC,Qp,Qvj hrn hsl (by omega) (by omega),Qp,YC,Qp,ZL _ (by simp),Qp,QGa (by omega) (by omega),Qek]
    by_cases h3:r.Nd.head?=t.Nc.getLast?
    · simp only [h3,decide_true,cond_true,Int.natCast_zero,ne_eq,not_true_eq_false,if_false,if_true];cases hb:(r.Nd.drop 1).any (ZP x) with
      | true=>exact Runs.some ⟨rfl,fun hh=>by cases hh⟩
      | false =>
        cases hl:Y0 p x.Nb r r.Nd with
        | false=>exact Runs.some ⟨rfl,fun hh=>by cases hh⟩
        | true =>
          simp only [Bool.not_false,cond_true,Int.natCast_zero,not_true_eq_false,if_false,decide_true,Bool.not_true,cond_false];rw [QCm _ _ (by omega) (by simp;omega),Qp,hnx,Qp];exact Runs.some ⟨rfl,fun _=>rfl⟩
    · simp only [h3,decide_false,cond_false,if_false];exact Runs.some ⟨rfl,fun hh=>by cases hh⟩
  simp only [if_neg h1,decide_eq_false h1,cond_false];by_cases h3:e.Kind=3
  · simp only [if_pos h3,decide_eq_true h3,cond_true];rw [if_neg (by omega),if_pos (.inl h3),hnx,Qp,Zg (by omega)];by_cases h5:t.Nf < t.Nc.length
    · rw [if_pos h5,decide_eq_true h5];exact Runs.some ⟨rfl,fun _=>rfl⟩
    · rw [if_neg h5,decide_eq_false h5];exact Runs.some ⟨rfl,fun hh=>by cases hh⟩
  simp only [if_neg h3,decide_eq_false h3,cond_false];by_cases h4:e.Kind=4
  · simp only [if_pos h4,decide_eq_true h4,cond_true];rw [Qoo (by omega),Qp,hnx,Qp,YC,Qp,Zg (by omega)];by_cases h5:1 < t.Nf
    · rw [if_pos h5,decide_eq_true h5];exact Runs.some ⟨rfl,fun _=>rfl⟩
    · rw [if_neg h5,decide_eq_false h5];exact Runs.some ⟨rfl,fun hh=>by cases hh⟩
  simp only [if_neg h4,decide_eq_false h4,cond_false];by_cases h5:e.Kind=5
  · simp only [if_pos h5,decide_eq_true h5,cond_true];rw [if_pos (.inr h5),show w64 ((t.Nc.length:Int) - 1)=((t.Nc.length - 1:Nat):Int) by rw [Zg (by omega)];omega,Qbm (by omega),Qp,hnx,Qp];by_cases h6:t.Nf < t.Nc.length
    · rw [if_pos h6,decide_eq_true h6];exact Runs.some ⟨rfl,fun _=>rfl⟩
    · rw [if_neg h6,decide_eq_false h6];exact Runs.some ⟨rfl,fun hh=>by cases hh⟩
  simp only [if_neg h5,decide_eq_false h5,cond_false];rw [if_neg (by omega),hnx,Qp,YC,Qp];by_cases h6:t.Nc.length=1
  · rw [if_pos h6,decide_eq_true (by omega)];exact Runs.some ⟨rfl,fun _=>rfl⟩
  · rw [if_neg h6,decide_eq_false (by omega)];exact Runs.some ⟨rfl,fun hh=>by cases hh⟩
/-! ### The beginning, copies -/
theorem QRs (p:Ng) {x:Nh} (h:StateS x):Qgu (some ⟨p,x⟩)=some x:=by
 have h1:=h.sw;have h2:=h.tr;unfold Qgu;rw [Qp];show Option.bind (Option.bind (Qco x.Nb) _) _=_;rw [Qom _ (by omega),Qp,Qp];simp only [Qp];have hl:=Qet (step:=Qgt ⟨p,x⟩) (o:=x.Na) (fun k=>((k:Int),x.Na.take k)) x.Na.length (fun k hk=>by
  unfold Qgt;show (bif decide ((k:Int) < (x.Na.length:Int)) then Option.bind (idx x.Na (k:Int)) _ else _)=_;rw [XY hk,cond_true,XE hk,Qp,Qom _ (by have:=h.ch _ (List.getElem_mem hk);omega),Qp,Qae (by simp;omega),Qp,XK k (by omega)];show some (Sum.inl (_,x.Na.take k++[x.Na[k]]))=_;have:=Qsh x.Na id k hk;simp only [List.map_id,id_eq] at this;rw [this]) (by
  unfold Qgt;show (bif decide ((x.Na.length:Int) < (x.Na.length:Int)) then _ else _)=_;rw [XZ,List.take_length];rfl)
 have hl2:loop (Qgt ⟨p,x⟩) (0,([]:List Nk))=some x.Na:=hl;rw [hl2];rfl
end Go.Gw

end
section
set_option maxRecDepth 4096
namespace Go.Gw
open Go
attribute [local irreducible] loop
def QAn:Nh:=⟨[],[],0⟩
def evE (p:Ng) (x:Nh) (e:Nq):Int:=if ZU p e=0 then JV p x e else ZU p e
def evs (p:Ng):Nh->Nat->List Nq->Nh⊕(Nat×Int)
 | x,_,[]=>.inl x
 | x,k,e::l=>if evE p x e=0 then evs p (Zx p x e) (k+1) l else .inr (k,evE p x e)
end Go.Gw

end
section
set_option maxRecDepth 4096
namespace Go.Gw
open Go
attribute [local irreducible] loop
end Go.Gw

end
section
set_option maxRecDepth 4096
namespace Go.Gw
open Go
attribute [local irreducible] loop
end Go.Gw

end
section
set_option maxRecDepth 4096
namespace Go.Gw
open Go
attribute [local irreducible] loop
end Go.Gw

end
section
set_option maxRecDepth 4096
namespace Go.Gw
open Go
attribute [local irreducible] loop
theorem Qoz (l:List Int) (v:Int) (hl:l.length < 1000000):Qec l v=some (decide (v∈l)):=by
 unfold Qec;rw [Zd l (fun x=>decide (x=v)) (fun _ _=>true),Qp]
 ·rcases ZY (p:=fun x=>decide (x=v)) (res:=fun _ _=>true) l 0 with ⟨k1,k2⟩ | ⟨j,x,k1,k2,k3⟩
  ·rw [k1,<-Qto,k2];rfl
  ·rw [k1,<-Qto,k3];rfl
 ·intro k hk;unfold Qob;rw [XY hk,XE hk,XK k (by omega)];rfl
 ·unfold Qob;rw [XZ];rfl
theorem QMf (l:List ByteArray) (s:ByteArray) (hl:l.length < 1000000):Qlu l s=some (Qay (fun x=>decide (x=s)) l):=by
 unfold Qlu Qay;rw [Zd l (fun x=>decide (x=s)) (fun k _=>(k:Int)),Qp,Qfh]
 ·intro k hk;unfold Qrj;rw [XY hk,XE hk,XK k (by omega)];rfl
 ·unfold Qrj;rw [XZ];rfl
theorem Qwg (l:List ByteArray) (s:ByteArray):(l.any fun x=>decide (x=s))=Ze l s:=by
 unfold Ze;congr 1;funext x;exact decide_eq_decide.2 eq_comm
theorem Qwh {α:Type} (f:α->ByteArray) (l:List α) (s:ByteArray):(l.any fun x=>decide (f x=s))=Ze (l.map f) s:=by
 rw [<-Qwg,List.any_map];rfl
theorem Qxs (l:List ByteArray) (hl:l.length < 1000):Qhn l=some (match XF (Zr l) l.length with | some i=>((i:Int),Zr l i) | none=>(0,0)):=by
 unfold Qhn;have key:loop (Qhm l) 0=_:=J8 (step:=Qhm l) (fun k=>(k:Int)) l.length (Zr l) (fun i e=>((i:Int),e)) () (fun k hk _=>by
  have hs:Zr l k=ZD l[k] (l.take k):=ZV _ _ _ hk;rw [hs];unfold Qhm ZD;rw [XY hk,cond_true,XE hk,Qp,Qny,Qp];cases Qai l[k]
  ·rfl
  ·simp only [Bool.not_true,cond_false,Qp,cond_true];rw [Qbm (by omega),Qp,QMf _ _ (by simp;omega),Qp,Qpd,Qwg,XK k (by omega)];cases Ze (l.take k) l[k]<;>rfl) (fun _=>by
  unfold Qhm;rw [XZ];rfl)
 rw [key,Qp];cases XF (Zr l) l.length<;>rfl
theorem Qsd {α ρ:Type} {step:Int->Option (Int⊕(ρ⊕Unit))} (xs:List α) (n:Nat) (hn:n<=xs.length) (p:α->Bool) (c:ρ)
  (hs:∀ k (hk:k < xs.length),k < n->step (k:Int)=(bif p xs[k] then some (.inr (.inl c)) else some (.inl ((k+1:Nat):Int))))
  (he:step (n:Int)=some (.inr (.inr ()))):loop step 0=some (if (xs.take n).any p=true then .inl c else .inr ()):=by
 have hlen:(xs.take n).length=n:=by simp;omega
 rw [Zd (xs.take n) p (fun _ _=>c) (fun k hk=>by
  rw [hlen] at hk;rw [hs k (by omega) hk];simp only [List.getElem_take]) (by rw [hlen];exact he)]
 rcases ZY (p:=p) (res:=fun _ _=>c) (xs.take n) 0 with ⟨k1,k2⟩ | ⟨j,x,k1,k2,k3⟩
 ·rw [k1,k2];rfl
 ·rw [k1,k3];rfl
theorem QNo {p:Ng} (h:PlantS p) (k:Nat) (hk:k < p.Nb.length):Qmb p k=some (ZG p k):=by
 have h1:=h.sw;have h2:=h.se;have hs:ZG p k=swE p k p.Nb[k]:=ZV _ _ _ hk;have l0:loop (Qlz p.Nb[k] (k:Int) p) 0=some (if (p.Nb.take k).any (fun o=>decide (o.Name=p.Nb[k].Name))=true then .inl 5 else .inr ()) :=
  Qsd p.Nb k (by omega) _ _ (fun j hj hjk=>by
   unfold Qlz;rw [XY hjk,cond_true,XE hj,Qp,XK j (by omega)]) (by
   unfold Qlz;rw [XZ];rfl)
 have l1:loop (Qma p.Nb[k] (k:Int) p) 0=some (if (p.Nb.take k).any (fun o=>decide (o.Nl=p.Nb[k].Nl))=true then .inl 26 else .inr ()) :=
  Qsd p.Nb k (by omega) _ _ (fun j hj hjk=>by
   unfold Qma;rw [XY hjk,cond_true,XE hj,Qp,XK j (by omega)]) (by
   unfold Qma;rw [XZ];rfl)
 rw [hs];unfold Qmb swE swX ZD;rw [XE hk,Qp,Qny,Qp,l0,l1,Qwh (fun o:Nt=>o.Name),show ZS p.Nb[k].Nl 0 (w64 ((p.Nd.length:Int) - 1))=some (Yu p p.Nb[k].Nl) by rw [Qbl,Zg (by omega)];rfl];cases Qai p.Nb[k].Name
 ·rfl
 ·cases Ze ((p.Nb.take k).map (·.Name)) p.Nb[k].Name
  ·cases Yu p p.Nb[k].Nl
   ·rfl
   ·cases (p.Nb.take k).any (fun o=>decide (o.Nl=p.Nb[k].Nl))<;>rfl
  ·rfl
theorem Qrc (n:Int):ZS n 0 1=some (YW n):=by
 rw [Qbl];congr 1;unfold YW;rw [Bool.eq_iff_iff];simp only [Bool.and_eq_true,Bool.or_eq_true,decide_eq_true_eq];omega
theorem QNm {p:Ng} (h:PlantS p) (k:Nat) (hk:k < p.Ni.length):Qly p k=some (ZE p k):=by
 have h1:=h.ro;have h2:=h.se;have h3:=h.sw;obtain ⟨_,hr,hn⟩:=h.rn _ (List.getElem_mem hk);have hs:ZE p k=rtE p k p.Ni[k]:=ZV _ _ _ hk;have l0:loop (Qlv p.Ni[k] p (k:Int)) 0=some (if (p.Ni.take k).any (fun o=>decide (o.Name=p.Ni[k].Name))=true then .inl 5 else .inr ()) :=
  Qsd p.Ni k (by omega) _ _ (fun j hj hjk=>by
   unfold Qlv;rw [XY hjk,cond_true,XE hj,Qp,XK j (by omega)]) (by
   unfold Qlv;rw [XZ];rfl)
 rw [hs];unfold Qly rtE;rw [XE hk,Qp,Qny,Qp,l0,Qwh (fun o:Nn=>o.Name)];generalize p.Ni[k]=r at hr hn ⊢;have l1:loop (Qlw r p) 0=some (match XF (Jz p r) r.Nd.length with | some i=>.inl (Jz p r i) | none=>.inr ()) :=
  J8 (fun k=>(k:Int)) r.Nd.length (Jz p r) (fun _ e=>e) () (fun k hk _=>by
   have hs:Jz p r k=rsE p r k r.Nd[k]:=ZV _ _ _ hk;rw [hs];unfold Qlw rsE;rw [XY hk,cond_true,XE hk,Qp,show ZS r.Nd[k] 0 (w64 ((p.Nd.length:Int) - 1))=some (Yu p r.Nd[k]) by rw [Qbl,Zg (by omega)];rfl,Qp,Qbm (by omega),Qp,Qp,Qoz _ _ (by simp;omega),Qp,XK k (by omega)];cases Yu p r.Nd[k]<;>cases decide (r.Nd[k]∈r.Nd.take k)<;>rfl) (fun _=>by
   unfold Qlw;rw [XZ];rfl)
 have l2:r.Nr.length=p.Nb.length->loop (Qlx r p) 0=some (Yd (Qaj r) (fun _ _=>(2:Int)) 0 (r.Nr.zip p.Nb)):=fun he =>
  Zd (r.Nr.zip p.Nb) _ _ (fun k hk=>by
   rw [Qnl he] at hk;unfold Qlx;rw [XY hk,cond_true,XE (show k < p.Nb.length by omega),Qp,Qoz _ _ (by omega),Qp,XE hk,XK k (by omega)];simp only [List.getElem_zip,Qaj,Qp,Qrc];cases decide (p.Nb[k].Nl∈r.Nd)<;>rfl) (by
   rw [Qnl he];unfold Qlx;rw [XZ];rfl)
 unfold ZD;cases Qai r.Name
 ·rfl
 ·cases Ze ((p.Ni.take k).map (·.Name)) r.Name
  ·simp only [Bool.not_true,cond_false,cond_true,Qp,Xl,if_true,Bool.false_eq_true,if_false];unfold rtX;by_cases h4:r.Nd.length < 2
   ·rw [if_pos h4,decide_eq_true (show (r.Nd.length:Int) < 2 by omega)];rfl
   rw [if_neg h4,decide_eq_false (show ¬ (r.Nd.length:Int) < 2 by omega)];by_cases h5:p.Nd.length < r.Nd.length
   ·rw [if_pos h5,decide_eq_true (show (p.Nd.length:Int) < r.Nd.length by omega)];rfl
   rw [if_neg h5,decide_eq_false (show ¬ (p.Nd.length:Int) < r.Nd.length by omega),l1];simp only [cond_false,Qp];cases XF (Jz p r) r.Nd.length with
   | some i=>rfl
   | none =>
    simp only [Xl];by_cases h6:r.Nr.length=p.Nb.length
    ·rw [if_pos h6,decide_eq_true (show (r.Nr.length:Int)=p.Nb.length by omega),Bool.not_true,cond_false,l2 h6,Qp];rcases ZY (p:=Qaj r) (res:=fun _ _=>(2:Int)) (r.Nr.zip p.Nb) 0 with ⟨k1,k2⟩ | ⟨j,x,k1,k2,k3⟩
     ·rw [k1,k2];rfl
     ·rw [k1,k3];rfl
    ·rw [if_neg h6,decide_eq_false (show ¬ (r.Nr.length:Int)=p.Nb.length by omega)];rfl
  ·rfl
theorem QNh {p:Ng} (h:PlantS p):Qlk p=some (Jx p):=by
  have h3:=h.sw;have h4:=h.ro;have l0:loop (Qli p) 0=some (match XF (ZG p) p.Nb.length with | some i=>.inl (Np.mk 3 i,ZG p i) | none=>.inr ()) :=
    J8 (fun k=>(k:Int)) p.Nb.length (ZG p) (fun i e=>(Np.mk 3 i,e)) () (fun k hk _=>by
      unfold Qli;rw [XY hk,cond_true,QNo h k hk,Qp,XK k (by omega)];by_cases h1:ZG p k=0
      · rw [if_pos h1,decide_eq_true h1];rfl
      · rw [if_neg h1,decide_eq_false h1];rfl) (fun _=>by
      unfold Qli;rw [XZ];rfl)
  have l1:loop (Qlj p) 0=some (match XF (ZE p) p.Ni.length with | some i=>.inl (Np.mk 4 i,ZE p i) | none=>.inr ()) :=
    J8 (fun k=>(k:Int)) p.Ni.length (ZE p) (fun i e=>(Np.mk 4 i,e)) () (fun k hk _=>by
      unfold Qlj;rw [XY hk,cond_true,QNm h k hk,Qp,XK k (by omega)];by_cases h1:ZE p k=0
      · rw [if_pos h1,decide_eq_true h1];rfl
      · rw [if_neg h1,decide_eq_false h1];rfl) (fun _=>by
      unfold Qlj;rw [XZ];rfl)
  unfold Qlk Jx;by_cases h1:p.Nd.length=0\/p.Na.length=0
  · rw [if_pos h1, show (decide ((p.Nd.length : Int) = 0) || decide ((p.Na.length : Int) = 0)) = true by
      simp only [Bool.or_eq_true,decide_eq_true_eq];omega]
    rfl
  rw [if_neg h1,decide_eq_false (show ¬ (p.Nd.length:Int)=0 by omega),decide_eq_false (show ¬ (p.Na.length:Int)=0 by omega)];simp only [Bool.or_self,cond_false];by_cases h2:8 < p.Nd.length\/3 < p.Na.length\/4 < p.Nb.length\/10 < p.Ni.length
  · rw [if_pos h2, show (((decide (8 < (p.Nd.length : Int)) || decide (3 < (p.Na.length : Int))) || decide (4 < (p.Nb.length : Int))) || decide (10 < (p.Ni.length : Int))) = true by
      simp only [Bool.or_eq_true,decide_eq_true_eq];omega]
    rfl
  rw [if_neg h2, show (((decide (8 < (p.Nd.length : Int)) || decide (3 < (p.Na.length : Int))) || decide (4 < (p.Nb.length : Int))) || decide (10 < (p.Ni.length : Int))) = false by
      rw [decide_eq_false (by omega),decide_eq_false (by omega),decide_eq_false (by omega),decide_eq_false (by omega)];rfl]
  rw [cond_false,Qxs _ h.se,Qxs _ h.tr,l0,l1];have hz:∀ {f:Nat->Int} {n i:Nat},XF f n=some i->f i≠0:=fun hf=>(J5 hf).2.1
  cases h3:XF (Zr p.Nd) p.Nd.length with
  | some i=>simp [hz h3]
  | none =>
    simp only [Qp,decide_true,Bool.not_true,cond_false];cases h4:XF (Zr p.Na) p.Na.length with
    | some i=>simp [hz h4]
    | none =>
      simp only [decide_true,Bool.not_true,cond_false];cases h5:XF (ZG p) p.Nb.length with
      | some i=>rfl
      | none =>
        simp only [Xl];cases h6:XF (ZE p) p.Ni.length with
        | some i=>rfl
        | none=>rfl
theorem QNl {p:Ng} (h:PlantS p):Qlo p=some (Jx p).2:=by
 unfold Qlo;rw [QNh h];rfl
/-! ### Copies -/
theorem Qje (l:List Int) (h:l.length < 1000000):Qcc l=some l:=by
 unfold Qcc;rw [Qae (by simp;omega)];rfl
theorem Quf (l:List ByteArray) (h:l.length < 1000000):Qfz l=some l:=by
 unfold Qfz;rw [Qae (by simp;omega)];rfl
theorem Qif {α:Type} (l:List α) (k:Nat) (hk:k < l.length):l.take k++[l[k]]=l.take (k+1):=by
 have:=Qsh l id k hk;simp
theorem QCp {p:Ng} (h:PlantS p):Qll p=some p:=by
 have h1:=h.se;have h2:=h.tr;have h3:=h.sw;have h4:=h.ro;have hl:=Qet (step:=Qhh p) (o:=p.Ni) (fun k=>((k:Int),p.Ni.take k)) p.Ni.length (fun k hk=>by
  obtain ⟨_,hr,hn⟩:=h.rn _ (List.getElem_mem hk);unfold Qhh;simp only [XY hk,cond_true,XE hk,Qp];rw [Qje _ (by omega),Qp,Qje _ (by omega),Qp,Qae (by simp;omega),Qp,XK k (by omega),Qif _ _ hk]) (by
  unfold Qhh;simp only [XZ,List.take_length];rfl)
 have hl2:loop (Qhh p) (0,([]:List Nn))=some p.Ni:=hl;unfold Qll;rw [Quf _ (by omega),Qp,Quf _ (by omega),Qp,Qae (by simp;omega),Qp,Qp];simp only [List.nil_append];rw [hl2];rfl
theorem QCq {x:Nh} (h:StateS x):Qlm x=some x:=by
 have h1:=h.sw;have h2:=h.tr;have hl:=Qet (step:=Qhi x) (o:=x.Na) (fun k=>((k:Int),x.Na.take k)) x.Na.length (fun k hk=>by
  unfold Qhi;simp only [XY hk,cond_true,XE hk,Qp];rw [Qje _ (by have:=h.ch _ (List.getElem_mem hk);omega),Qp,Qae (by simp;omega),Qp,XK k (by omega)];show some (Sum.inl (_,x.Na.take k++[x.Na[k]]))=_;rw [Qif _ _ hk]) (by
  unfold Qhi;simp only [XZ,List.take_length];rfl)
 have hl2:loop (Qhi x) (0,([]:List Nk))=some x.Na:=hl;unfold Qlm;rw [Qje _ (by omega),Qp,Qp];simp only;rw [hl2];rfl
/-! ### Equal ones -/
theorem Qgo (a b:List Int) (ha:a.length < 1000000):Qcd a b=some (decide (a=b)):=by
 unfold Qcd;by_cases hl:a.length=b.length
 ·rw [decide_eq_true (by omega),Bool.not_true,cond_false,Zd (a.zip b) (fun x=>!decide (x.1=x.2)) (fun _ _=>false),Qp,Qup a b hl]
  ·intro k hk;rw [QAq hl] at hk;unfold Qoc;rw [XY hk,cond_true,XE hk,Qp,XE (show k < b.length by omega),Qp,XK k (by omega)];simp only [List.getElem_zip]
  ·rw [QAq hl];unfold Qoc;rw [XZ];rfl
 ·rw [decide_eq_false (by omega)];simp only [Bool.not_false,cond_true];rw [decide_eq_false];intro e;exact hl (by rw [e])
/-! ### The Qvk -/
theorem QFj (p:Ng):Qem p=some true/\PlantS p/\(p.Nd.length<=4\/8 < p.Nd.length)\/Qem p=some false:=by
 unfold Qem;cases hb:(((((decide (4 < (p.Nd.length:Int))&&decide ((p.Nd.length:Int)<=8))||decide (10 < (p.Nd.length:Int)))||decide (5 < (p.Na.length:Int)))||decide (6 < (p.Nb.length:Int)))||decide (12 < (p.Ni.length:Int))) with
 | true=>exact .inr rfl
 | false =>
  rw [cond_false];simp only [Bool.or_eq_false_iff,Bool.and_eq_false_iff,decide_eq_false_iff_not] at hb;have h1:p.Nd.length < 1000:=by omega
  have h2:p.Na.length < 1000:=by omega
  have h3:p.Nb.length < 1000:=by omega
  have h4:p.Ni.length < 1000:=by omega
  have l0:loop (Qjr p) 0=some (Yd (fun s:ByteArray=>decide (20 < (s.size:Int))) (fun _ _=>false) 0 p.Nd):=Zd p.Nd _ _ (fun k hk=>by
   unfold Qjr;rw [XY hk,cond_true,XE hk,Qp,XK k (by omega)]) (by unfold Qjr;rw [XZ];rfl)
  have l1:loop (Qjs p) 0=some (Yd (fun s:ByteArray=>decide (20 < (s.size:Int))) (fun _ _=>false) 0 p.Na):=Zd p.Na _ _ (fun k hk=>by
   unfold Qjs;rw [XY hk,cond_true,XE hk,Qp,XK k (by omega)]) (by unfold Qjs;rw [XZ];rfl)
  have l2:loop (Qjt p) 0=some (Yd (fun s:Nt=>decide (20 < (s.Name.size:Int))) (fun _ _=>false) 0 p.Nb):=Zd p.Nb _ _ (fun k hk=>by
   unfold Qjt;rw [XY hk,cond_true,XE hk,Qp,XK k (by omega)]) (by unfold Qjt;rw [XZ];rfl)
  have l3:loop (Qju p) 0=some (Yd (fun r:Nn=>decide (20 < (r.Name.size:Int))||(decide (10 < (r.Nd.length:Int))||decide (6 < (r.Nr.length:Int)))) (fun _ _=>false) 0 p.Ni):=Zd p.Ni _ _ (fun k hk=>by
   unfold Qju;simp only [XY hk,cond_true,XE hk,Qp,XK k (show k < 4611686018427387904 by omega)];cases decide (20 < (p.Ni[k].Name.size:Int))<;>cases decide (10 < (p.Ni[k].Nd.length:Int))<;>cases decide (6 < (p.Ni[k].Nr.length:Int))<;>rfl) (by unfold Qju;rw [XZ];rfl)
  rw [l0,l1,l2,l3];simp only [Qp];rcases ZY (p:=fun s:ByteArray=>decide (20 < (s.size:Int))) (res:=fun _ _=>false) p.Nd 0 with ⟨k1,k2⟩ | ⟨j,x,k1,k2,k3⟩
  ·rw [k1];rcases ZY (p:=fun s:ByteArray=>decide (20 < (s.size:Int))) (res:=fun _ _=>false) p.Na 0 with ⟨m1,m2⟩ | ⟨j,x,m1,m2,m3⟩
   ·rw [m1];rcases ZY (p:=fun s:Nt=>decide (20 < (s.Name.size:Int))) (res:=fun _ _=>false) p.Nb 0 with ⟨n1,n2⟩ | ⟨j,x,n1,n2,n3⟩
    ·rw [n1];rcases ZY (p:=fun r:Nn=>decide (20 < (r.Name.size:Int))||(decide (10 < (r.Nd.length:Int))||decide (6 < (r.Nr.length:Int)))) (res:=fun _ _=>false) p.Ni 0 with ⟨o1,o2⟩ | ⟨j,x,o1,o2,o3⟩
     ·rw [o1];rw [List.any_eq_false] at k2 m2 n2 o2;refine .inl ⟨rfl,⟨h1,h2,h3,h4,fun s hs=>?_,fun s hs=>?_,fun s hs=>?_,fun r hr=>?_⟩,by omega⟩
      ·have:=k2 s hs;simp at this;omega
      ·have:=m2 s hs;simp at this;omega
      ·have:=n2 s hs;simp at this;omega
      ·have:=o2 r hr;simp at this;omega
     ·rw [o1];exact .inr rfl
    ·rw [n1];exact .inr rfl
   ·rw [m1];exact .inr rfl
  ·rw [k1];exact .inr rfl
theorem QFk (x:Nh):Qen x=some true/\StateS x\/Qen x=some false:=by
 unfold Qen;cases hb:(decide (6 < (x.Nb.length:Int))||decide (5 < (x.Na.length:Int))) with
 | true=>exact .inr rfl
 | false =>
  rw [cond_false];simp only [Bool.or_eq_false_iff,decide_eq_false_iff_not] at hb;have l0:loop (Qjv x) 0=some (Yd (fun t:Nk=>decide (10 < (t.Nc.length:Int))) (fun _ _=>false) 0 x.Na):=Zd x.Na _ _ (fun k hk=>by
   unfold Qjv;rw [XY hk,cond_true,XE hk,Qp,XK k (by omega)]) (by unfold Qjv;rw [XZ];rfl)
  rw [l0,Qp];rcases ZY (p:=fun t:Nk=>decide (10 < (t.Nc.length:Int))) (res:=fun _ _=>false) x.Na 0 with ⟨k1,k2⟩ | ⟨j,y,k1,k2,k3⟩
  ·rw [k1];rw [List.any_eq_false] at k2;refine .inl ⟨rfl,by omega,by omega,fun t ht=>?_⟩;have:=k2 t ht;simp at this;omega
  ·rw [k1];exact .inr rfl
end Go.Gw

end
