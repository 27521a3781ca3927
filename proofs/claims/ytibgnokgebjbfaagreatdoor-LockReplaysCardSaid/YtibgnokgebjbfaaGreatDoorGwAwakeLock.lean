/- Laws of the walk. Condition: each theorem says its own. -/
import Derived.Test.YtibgnokgebjbfaaGreatDoorGwTopA
import Derived.Test.YtibgnokgebjbfaaGreatDoorGwLib21
set_option linter.unusedVariables false
set_option linter.unusedSimpArgs false
set_option linter.unusedSectionVars false
section
set_option maxRecDepth 100000
namespace Go.Gw
open Go
theorem QDg:Qqk=some true:=by decide +kernel
end Go.Gw

end
section
set_option linter.unusedSectionVars false
namespace Go.Gw
section
variable {α β γ σ ρ:Type}
def Yi (p:α->Bool) (res:Nat->α->ρ):Nat->List α->ρ⊕Unit
 | _,[]=>.inr ()
 | k,x::xs=>if p x then .inl (res k x) else Yi p res (k+1) xs
theorem Zb {step:Int->Option (Int⊕(ρ⊕Unit))} (xs:List α) (p:α->Bool) (res:Nat->α->ρ)
  (hs:∀ k (hk:k < xs.length),step (k:Int)=(bif p xs[k] then some (.inr (.inl (res k xs[k]))) else some (.inl ((k+1:Nat):Int))))
  (he:step (xs.length:Int)=some (.inr (.inr ()))):loop step 0=some (Yi p res 0 xs):=by
 have key:∀ j k,j+k=xs.length->loop step (k:Int)=some (Yi p res k (xs.drop k)):=by
  intro j
  induction j with
  | zero =>
   intro k hk;obtain rfl:k=xs.length:=by omega
   rw [List.drop_length];exact JH he
  | succ j ih =>
   intro k hk;have hlt:k < xs.length:=by omega
   rw [List.drop_eq_getElem_cons hlt];have:=hs k hlt;cases hp:p xs[k] with
   | true=>simp_all [JH,Yi,if_true]
   | false=>grind [Qac,Yi]
 have:=key xs.length 0 (by omega);trivial

def fld (f:Nat->γ->α->γ):Nat->γ->List α->γ
 | _,a,[]=>a
 | k,a,x::xs=>fld f (k+1) (f k a x) xs
theorem QJw {step:σ->Option (σ⊕β)} (xs:List α) (f:Nat->γ->α->γ) (S:γ->Nat->σ) (o:γ->β) (Inv:γ->Nat->Prop) (a0:γ) (h0:Inv a0 0)
  (hs:∀ k (hk:k < xs.length) a,Inv a k->step (S a k)=some (.inl (S (f k a xs[k]) (k+1)))/\Inv (f k a xs[k]) (k+1))
  (he:∀ a,Inv a xs.length->step (S a xs.length)=some (.inr (o a))):loop step (S a0 0)=some (o (fld f 0 a0 xs))/\Inv (fld f 0 a0 xs) xs.length:=by
 have key:∀ j k a,j+k=xs.length->Inv a k->loop step (S a k)=some (o (fld f k a (xs.drop k)))/\Inv (fld f k a (xs.drop k)) xs.length:=by
  intro j
  induction j with
  | zero =>
   intro k a hk hI;obtain rfl:k=xs.length:=by omega
   rw [List.drop_length];exact ⟨JH (he a hI),hI⟩
  | succ j ih =>
   intro k a hk hI;have hlt:k < xs.length:=by omega
   rw [List.drop_eq_getElem_cons hlt];have:=hs k hlt a hI;rw [Qac this.1];exact ih (k+1) _ (by omega) this.2
 have:=key xs.length 0 a0 (by omega) h0;trivial

theorem X1 (k:Nat) (h:k < 4611686018427387904):w64 ((k:Int)+1)=((k+1:Nat):Int):=by grind [YY]
theorem XZ {k n:Nat} (h:k < n):decide ((k:Int) < (n:Int))=true:=by simp;omega
theorem X2 (n:Nat):decide ((n:Int) < (n:Int))=false:=by simp
end
end Go.Gw

end
section
set_option maxRecDepth 4096
namespace Go.Gw
open Go
def ZH:List Int->Int
 | []=>0
 | x::xs=>if x=0 then ZH xs else x
theorem Zz (l:List Int) (hl:l.length < 1073741824):ZJ l=some (ZH l):=by
  unfold ZJ;rw [Zb l (fun x=>!decide (x=0)) (fun _ x=>x)]
  · have key : ∀ (l : List Int) k, (Xv (Yi (fun x => !decide (x = 0)) (fun _ x => x) k l) fun (_ : Unit) => some 0) = some (ZH l) := by
      intro l
      induction l with
      | nil=>intro k;rfl
      | cons x xs ih =>
        intro k;by_cases h:x=0
        · simp [Yi,ZH,h];exact ih _
        · simp [Yi,ZH,h,Xv]
    simpa using key l 0
  · intro k hk;unfold Qqs;rw [XZ hk,XA hk,X1 k (by omega)];rfl
  · unfold Qqs;rw [X2];rfl
theorem Yt (b:Bool) (e:Int):Yf b e=some (bif b then 0 else e):=by cases b<;>rfl
theorem Qtw (n lo hi:Int):Jk n lo hi=some (decide (lo<=n)&&decide (n<=hi)):=rfl
theorem QHn (n:Int):Qky n=some (decide (0<=n)&&decide (n<=6)):=rfl
end Go.Gw

end
section
set_option maxRecDepth 4096
namespace Go.Gw
open Go
def Qcd (n:Int):Bool:=decide (0<=n)&&decide (n<=250)
end Go.Gw

end
section
set_option maxRecDepth 4096
namespace Go.Gw
open Go
attribute [local irreducible] loop
end Go.Gw

end
section
set_option maxRecDepth 4096
namespace Go.Gw
open Go
attribute [local irreducible] loop
end Go.Gw

end
section
set_option maxRecDepth 4096
namespace Go.Gw
open Go
attribute [local irreducible] loop
theorem Qdu {α:Type} (p:α->Bool):∀ (l:List α) (k:Nat),(Xv (β:=Int) (Yi p (fun k _=>(k:Int)) k l) fun (_:Unit)=>some (-1))=some (match Yi p (fun k _=>(k:Int)) k l with | .inl i=>i | .inr _=>-1)
 | l,k=>by cases Yi p (fun k _=>(k:Int)) k l<;>rfl
theorem Qin {α:Type} (p:α->Bool):∀ (l:List α) (k:Nat),decide (0<=(match Yi p (fun k _=>(k:Int)) k l with | .inl i=>i | .inr _=>(-1:Int)))=l.any p
 | [],k=>by simp [Yi]
 | x::xs,k=>by
  by_cases h:p x=true
  ·simp [Yi,h]
  ·simp only [Yi,h,List.any_cons];have:=Qin p xs (k+1);simpa [h] using this
theorem Js {α ρ:Type} {p:α->Bool} {res:Nat->α->ρ}:∀ (l:List α) (k:Nat),(Yi p res k l=.inr ()/\l.any p=false)\/∃ j x,Yi p res k l=.inl (res j x)/\p x=true/\l.any p=true
 | [],k=>.inl ⟨rfl,rfl⟩
 | x::xs,k=>by
  by_cases h:p x=true
  ·exact .inr ⟨k,x,by simp [Yi,h],h,by simp [h]⟩
  ·rcases Js xs (k+1) (p:=p) (res:=res) with ⟨h1,h2⟩ | ⟨j,y,h1,h2,h3⟩
   ·exact .inl ⟨by simp [Yi,h,h1],by simp [h,h2]⟩
   ·exact .inr ⟨j,y,by simp [Yi,h,h1],h2,by simp [h3]⟩
def XK (f:Nat->Int) (n:Nat):Option Nat:=(List.range n).find? fun i=>decide (f i≠0)
theorem Qkd (f:Nat->Int) (n:Nat):(XK f n=none/\∀ j,j < n->f j=0)\/∃ i,XK f n=some i/\i < n/\f i≠0/\∀ j,j < i->f j=0:=by
 cases h:XK f n with
 | none =>
  refine .inl ⟨rfl,fun j hj=>?_⟩;have:=List.find?_eq_none.1 h j (List.mem_range.2 hj);simpa using this
 | some i =>
  right;obtain ⟨h1,h2,h3⟩:=List.find?_range_eq_some.1 h;exact ⟨i,rfl,List.mem_range.1 h2,by simpa using h1,fun j hj=>by have:=h3 j hj;simpa using this⟩
theorem Qat {σ ρ μ:Type} {step:σ->Option (σ⊕(ρ⊕μ))} (S:Nat->σ) (n:Nat) (f:Nat->Int) (res:Nat->Int->ρ) (o:μ)
  (hs:∀ k,k < n->(∀ j,j < k->f j=0)->step (S k)=if f k=0 then some (.inl (S (k+1))) else some (.inr (.inl (res k (f k))))) (he:(∀ j,j < n->f j=0)->step (S n)=some (.inr (.inr o))) :
  loop step (S 0)=some (match XK f n with | some i=>.inl (res i (f i)) | none=>.inr o):=by
 rcases Qkd f n with ⟨h1,h2⟩ | ⟨i,h1,h2,h3,h4⟩
 ·rw [h1];exact Qhn S n (fun k hk=>by rw [hs k hk fun j hj=>h2 j (by omega),if_pos (h2 k hk)]) (he h2)
 ·rw [h1];exact Qhn S i (fun k hk=>by rw [hs k (by omega) fun j hj=>h4 j (by omega),if_pos (h4 k hk)]) (by rw [hs i h2 h4,if_neg h3])
/-! ### Names -/
def Qgh (q:Int×Nat):Bool:=(!(((decide (97<=q.1))&&(decide (q.1<=122)))||((decide (65<=q.1))&&(decide (q.1<=90)))))&&((decide ((q.2:Int)=0))||((!decide (q.1=45))&&((decide (q.1 < 48))||(decide (57 < q.1)))))
def bi (s:ByteArray):List Int:=bl s
theorem Qjr (s:ByteArray):(bi s).length=s.size:=Qaa s
theorem Qwk {s:ByteArray} {k:Nat} (h:k < (bi s).length):idx (α:=Int) (bl s) (k:Int)=some (bi s)[k]:=XA (xs:=bi s) h
def Qad (s:ByteArray):Bool:=decide (1<=s.size)&&(decide (s.size<=12)&&!((bi s).zipIdx.any Qgh))
theorem QAd (s:ByteArray):s=ByteArray.mk #[]↔s.size=0:=by
 constructor
 ·intro h;subst h;rfl
 ·intro h;cases s with
  | mk d =>
   congr 1;exact Array.eq_empty_of_size_eq_zero h
theorem Qox (s:ByteArray):Qem s=some (Qad s):=by
  unfold Qem Qad;have hlen:(bi s).zipIdx.length=s.size:=by rw [List.length_zipIdx,Qjr]
  by_cases h:1<=s.size/\s.size<=12
  · have : (decide ((s.size : Int) < 1) || decide (12 < (s.size : Int))) = false := by
      rw [decide_eq_false (by omega),decide_eq_false (by omega)];rfl
    rw [this,cond_false,Zb (bi s).zipIdx Qgh (fun _ _=>false),Qo]
    · rcases Js (p:=Qgh) (res:=fun _ _=>false) (bi s).zipIdx 0 with ⟨k1,k2⟩ | ⟨j,x,k1,k2,k3⟩
      · rw [k1,k2];simp [h,Xv]
      · rw [k1,k3];simp [Xv]
    · intro k hk;rw [hlen] at hk;unfold Qpc;rw [XZ hk,cond_true,Qwk (show k < (bi s).length by rw [Qjr];exact hk),Qo,X1 k (by omega)];simp only [List.getElem_zipIdx,Nat.zero_add];rfl
    · rw [hlen];unfold Qpc;rw [X2];rfl
  · have : (decide ((s.size : Int) < 1) || decide (12 < (s.size : Int))) = true := by
      by_cases h1:s.size < 1
      · rw [decide_eq_true (by omega)];rfl
      · rw [decide_eq_true (p:=12 < (s.size:Int)) (by omega)];simp
    rw [this,cond_true];congr 1;by_cases h1:1<=s.size
    · rw [decide_eq_false (p:=s.size<=12) (by omega)];simp
    · rw [decide_eq_false h1];rfl
theorem Qqf (s:ByteArray) (hs:s.size<=1000):Qey s=some (Qad s):=by
 unfold Qey Qad;have hlen:(bi s).zipIdx.length=s.size:=by rw [List.length_zipIdx,Qjr]
 have ht:tob s=some (bl s):=by unfold tob;rw [if_pos (by omega)]
 rw [ht,Qo,Zb (bi s).zipIdx Qgh (fun _ _=>false),Qo]
 ·rcases Js (p:=Qgh) (res:=fun _ _=>false) (bi s).zipIdx 0 with ⟨k1,k2⟩ | ⟨j,x,k1,k2,k3⟩
  ·rw [k1,k2];simp only [Xv,Bool.not_false,Bool.and_true,Option.some.injEq];by_cases h0:s.size=0
   ·rw [decide_eq_true ((QAd s).2 h0),decide_eq_false (show ¬ 1<=s.size by omega)];rfl
   ·rw [decide_eq_false (fun e=>h0 ((QAd s).1 e)),decide_eq_true (show 1<=s.size by omega)];simp only [Bool.not_false,Bool.true_and];by_cases h1:s.size<=12
    ·rw [decide_eq_true h1,decide_eq_true (by omega)]
    ·rw [decide_eq_false h1,decide_eq_false (by omega)]
  ·rw [k1,k3];simp [Xv]
 ·intro k hk;rw [hlen] at hk;have hk2:k < (bl s).length:=by rw [Qaa];exact hk
  unfold Qqu;rw [XZ hk2,cond_true,Qwk (show k < (bi s).length by rw [Qjr];exact hk),Qo,X1 k (by omega)];simp only [List.getElem_zipIdx,Nat.zero_add];rfl
 ·rw [hlen,show (s.size:Int)=((bl s).length:Int) by rw [Qaa]];unfold Qqu;rw [X2];rfl
theorem Qcc (n lo hi:Int):Jh n lo hi=some (decide (lo<=n)&&decide (n<=hi)):=rfl
theorem Qwe (a b:Int):ZH [a,b]=if a≠0 then a else b:=by
 unfold ZH ZH ZH;by_cases h:a=0<;>by_cases h2:b=0<;>simp [h,h2]
theorem Qeu (a b c:Int):ZH [a,b,c]=if a≠0 then a else if b≠0 then b else c:=by
 unfold ZH ZH ZH ZH;by_cases h:a=0<;>by_cases h2:b=0<;>by_cases h3:c=0<;>simp [h,h2,h3]
theorem Qps {α:Type} [DecidableEq α]:∀ (a b:List α) (hl:a.length=b.length) (k:Nat),(Xv (Yi (fun (x:α×α)=>!decide (x.1=x.2)) (fun _ _=>false) k (a.zip b)) fun (_:Unit)=>some true)=some (decide (a=b))
 | [],[],_,k=>by simp [Yi,Xv]
 | [],_::_,hl,_=>by simp at hl
 | _::_,[],hl,_=>by simp at hl
 | x::a,y::b,hl,k=>by
  by_cases hxy:x=y
  ·subst hxy;have:=Qps a b (by simpa using hl) (k+1);simp only [List.zip_cons_cons,Yi];simpa using this
  ·simp [Yi,hxy,Xv]
theorem Qok {α:Type} {a b:List α} (hl:a.length=b.length):(a.zip b).length=a.length:=by simp [hl]
theorem Z9 {α:Type} (l:List α) (f:α->Int) (k:Nat) (hk:k < l.length):(l[k]?.map f).getD 0=f l[k]:=by rw [List.getElem?_eq_getElem hk];rfl
theorem Qti {α β:Type} (l:List α) (f:α->β) (k:Nat) (hk:k < l.length):(l.take k).map f++[f l[k]]=(l.take (k+1)).map f:=by
 rw [List.take_add_one,List.getElem?_eq_getElem hk,List.map_append];rfl
theorem Qol {α β:Type} {a:List α} {b:List β} (hl:a.length=b.length):(a.zip b).length=a.length:=by simp [hl]
theorem Qbg {α:Type} {xs:List α} {k:Nat} (h:k<=xs.length):cut xs 0 (k:Int)=some (xs.take k):=by
 unfold cut;rw [if_pos (by omega),Int.toNat_natCast];rfl
theorem Qup {α:Type} [DecidableEq α] (l:List α) (v:α):(l.any fun x=>decide (v=x))=decide (v∈l):=by
 rw [Bool.eq_iff_iff];simp
theorem Quq {α:Type} [DecidableEq α] (l:List α) (v:α):(l.any fun x=>decide (x=v))=decide (v∈l):=by
 rw [Bool.eq_iff_iff];simp
def Qab {α:Type} (p:α->Bool) (l:List α):Int:=match Yi p (fun k _=>(k:Int)) 0 l with | .inl i=>i | .inr _=>(-1:Int)
theorem Qqe {α:Type} (p:α->Bool) (l:List α):decide (0<=Qab p l)=l.any p:=Qin p l 0
theorem Qwq (l:List Int) (v:Int) (hl:l.length < 1000000):Qim l v=some (Qab (fun x=>decide (v=x)) l):=by
 unfold Qim Qab;rw [Zb l (fun x=>decide (v=x)) (fun k _=>(k:Int)),Qo,Qdu]
 ·intro k hk;unfold Qsz;rw [XZ hk,XA hk,X1 k (by omega)];rfl
 ·unfold Qsz;rw [X2];rfl
theorem Qeo (l:List Int) (v:Int) (hl:l.length < 1000000):Qax l v=some (decide (v∈l)):=by
 unfold Qax;rw [Qwq l v hl,Qo,Qqe,Qup]
end Go.Gw

end
section
set_option maxRecDepth 4096
namespace Go.Gw
open Go
attribute [local irreducible] loop
def ZA (s:ByteArray) (others:List ByteArray):Int:=bif Qad s then (bif Y3 others s then 5 else 0) else 4
def Zk (l:List ByteArray) (k:Nat):Int:=(l[k]?.map fun s=>ZA s (l.take k)).getD 0
def Yx (p:Nf) (n:Int):Bool:=decide (0<=n)&&decide (n<=(p.Nc.length:Int) - 1)
def swX (p:Nf) (k:Nat) (s:Ns):Int:=bif Yx p s.Nq then (bif (p.Na.take k).any (fun o=>decide (o.Nq=s.Nq)) then 26 else 0) else 6
def swE (p:Nf) (k:Nat) (s:Ns):Int:=if ZA s.Name ((p.Na.take k).map (·.Name))=0 then swX p k s else ZA s.Name ((p.Na.take k).map (·.Name))
def ZE (p:Nf) (k:Nat):Int:=(p.Na[k]?.map (swE p k)).getD 0
def rsE (p:Nf) (r:Nn) (k:Nat) (s:Int):Int:=bif Yx p s then (bif decide (s∈r.Nc.take k) then 26 else 0) else 6
def Jr (p:Nf) (r:Nn) (k:Nat):Int:=(r.Nc[k]?.map (rsE p r k)).getD 0
def JI (r:Nn) (q:Int×Ns):Bool:=bif decide (q.2.Nq∈r.Nc) then !(decide (q.1=0)||decide (q.1=1)) else !decide (q.1=-1)
def rtX (p:Nf) (r:Nn):Int :=
 if r.Nc.length < 2 then 10 else if p.Nc.length < r.Nc.length then 8 else
 match XK (Jr p r) r.Nc.length with
 | some i=>Jr p r i
 | none=>if r.Nr.length=p.Na.length then (bif (r.Nr.zip p.Na).any (JI r) then 2 else 0) else 10
def rtE (p:Nf) (k:Nat) (r:Nn):Int:=if ZA r.Name ((p.Ni.take k).map (·.Name))=0 then rtX p r else ZA r.Name ((p.Ni.take k).map (·.Name))
def ZC (p:Nf) (k:Nat):Int:=(p.Ni[k]?.map (rtE p k)).getD 0
def ZB (p:Nf):Np×Int :=
 if p.Nc.length=0\/p.Nb.length=0 then (Np.mk 0 0,10) else if 8 < p.Nc.length\/3 < p.Nb.length\/4 < p.Na.length\/10 < p.Ni.length then (Np.mk 0 0,8) else
 match XK (Zk p.Nc) p.Nc.length with
 | some i=>(Np.mk 1 i,Zk p.Nc i)
 | none=>match XK (Zk p.Nb) p.Nb.length with
  | some i=>(Np.mk 2 i,Zk p.Nb i)
  | none=>match XK (ZE p) p.Na.length with
   | some i=>(Np.mk 3 i,ZE p i)
   | none=>match XK (ZC p) p.Ni.length with
    | some i=>(Np.mk 4 i,ZC p i)
    | none=>(Np.mk 0 0,0)
structure PlantS (p:Nf):Prop where
 se:p.Nc.length < 1000
 tr:p.Nb.length < 1000
 sw:p.Na.length < 1000
 ro:p.Ni.length < 1000
 sn:∀ s∈p.Nc,s.size<=1000
 tn:∀ s∈p.Nb,s.size<=1000
 wn:∀ s∈p.Na,s.Name.size<=1000
 rn:∀ r∈p.Ni,r.Name.size<=1000/\r.Nc.length < 1000/\r.Nr.length < 1000
theorem Qqc {α:Type} (l:List α) (f:α->ByteArray) (k:Nat) (hk:k < l.length) (h:Y3 ((l.take k).map f) (f l[k])=false):ZX ((l.take k).map f) (f l[k])=(l.take (k+1)).map f:=by
 unfold ZX;rw [h,if_neg (by simp),Qti l f k hk]
theorem Qrg (s:ByteArray) (others:List ByteArray):ZH [bif Qad s then 0 else 4,bif !(Y3 others s) then 0 else 5]=ZA s others:=by
 unfold ZA;cases Qad s<;>cases Y3 others s<;>rfl
theorem Qrh {s:ByteArray} {others:List ByteArray} (h:ZA s others=0):Y3 others s=false:=by
 unfold ZA at h;cases h1:Y3 others s with
 | false=>rfl
 | true=>rw [h1] at h;cases h2:Qad s<;>rw [h2] at h<;>cases h
theorem QEc {n m:Int} (h:n≠m):decide (n=m)=false:=decide_eq_false h
theorem Qxr (l:List ByteArray) (mark:Int) (hl:l.length < 1000) (hn:∀ s∈l,s.size<=1000):Qhl mark l=some (match XK (Zk l) l.length with | some i=>(Np.mk mark i,Zk l i) | none=>(Np.mk 0 0,0)):=by
 unfold Qhl;have key:loop (Qhk l mark) (0,[])=some (match XK (Zk l) l.length with | some i=>.inl (Np.mk mark i,Zk l i) | none=>.inr ()):=by
  refine Qat (step:=Qhk l mark) (fun k=>((k:Int),(l.take k).map id)) l.length (Zk l) (fun i e=>(Np.mk mark i,e)) () (fun k hk _=>?_) (fun _=>?_)
  ·have hs:Zk l k=ZA l[k] (l.take k):=Z9 _ _ _ hk;have hi:=fun h=>Qqc l id k hk h
   simp only [List.map_id,id_eq] at hi ⊢;rw [hs];unfold Qhk;simp only [XZ hk,cond_true,XA hk,Qo];rw [show Qqw l[k]=some l[k] from rfl,Qo,Qqf _ (hn _ (List.getElem_mem hk)),Qo];simp only [Yt,Qo];rw [Zz _ (by simp),Qo,Qrg];by_cases h:ZA l[k] (l.take k)=0
   ·rw [if_pos h,h,hi (Qrh h),X1 k (by omega)];rfl
   ·rw [if_neg h,QEc h];rfl
  ·unfold Qhk;simp only [X2];rfl
 rw [key,Qo];cases XK (Zk l) l.length<;>rfl
theorem QDr (l:List Ns) (s:Ns) (hl:l.length < 1000):Qnl l s=some (l.any fun o=>decide (o.Nq=s.Nq)):=by
 unfold Qnl Qst;rw [Zb l (fun o=>decide (o.Nq=s.Nq)) (fun k _=>(k:Int)),Qo,Qdu,Qo,Qin]
 ·intro k hk;unfold Qss;rw [XZ hk,XA hk,X1 k (by omega)];rfl
 ·unfold Qss;rw [X2];rfl
theorem Qzy (p:Nf) (hp:p.Nc.length < 1000) (n:Int):Jk n 0 (w64 ((p.Nc.length:Int) - 1))=some (Yx p n):=by
 rw [Qtw,YY (by omega)];rfl
theorem QSc {p:Nf} (h:PlantS p) (k:Nat) (hk:k < p.Na.length):Qln p k=some (swX p k p.Na[k]):=by
 have h1:=h.sw;unfold Qln swX;rw [XA hk,Qo,Qbg (by omega),Qo,QDr _ _ (by simp;omega),Qo,Qzy p h.se,Qo,Yt,Qo,Yt,Qo,Zz _ (by simp),Qo];cases Yx p p.Na[k].Nq<;>cases (p.Na.take k).any (fun o=>decide (o.Nq=p.Na[k].Nq))<;>rfl
theorem QSd {p:Nf} (h:PlantS p):Qlg 3 p.Na p=some (match XK (ZE p) p.Na.length with | some i=>(Np.mk 3 i,ZE p i) | none=>(Np.mk 0 0,0)):=by
 have hl:=h.sw;unfold Qlg;have key:loop (Qhj p p.Na 3) (0,[])=some (match XK (ZE p) p.Na.length with | some i=>.inl (Np.mk 3 i,ZE p i) | none=>.inr ()):=by
  refine Qat (step:=Qhj p p.Na 3) (fun k=>((k:Int),(p.Na.take k).map (·.Name))) p.Na.length (ZE p) (fun i e=>(Np.mk 3 i,e)) () (fun k hk _=>?_) (fun _=>?_)
  ·have hs:ZE p k=swE p k p.Na[k]:=Z9 _ _ _ hk;have hi:=fun h=>Qqc p.Na (·.Name) k hk h
   rw [hs];unfold Qhj swE;simp only [XZ hk,cond_true,XA hk,Qo];rw [show Qqn p.Na[k]=some p.Na[k].Name from rfl,Qo,Qqf _ (h.wn _ (List.getElem_mem hk)),Qo];simp only [Yt,Qo];rw [Zz _ (by simp),Qo,Qrg,show Qkt (k:Int) p=some (swX p k p.Na[k]) by unfold Qkt;rw [QSc h k hk];rfl];by_cases h1:ZA p.Na[k].Name ((p.Na.take k).map (·.Name))=0
   ·simp only [h1,hi (Qrh h1),if_true,decide_true,Bool.true_and,cond_true,Qo,X1 k (show k < 4611686018427387904 by omega)];by_cases h2:swX p k p.Na[k]=0
    ·simp [h2]
    ·simp [h2]
   ·simp only [h1,if_false,decide_false,Bool.false_and,cond_false,Qo,Bool.not_false,cond_true]
  ·unfold Qhj;simp only [X2];rfl
 rw [key,Qo];cases XK (ZE p) p.Na.length<;>rfl
theorem QPl {p:Nf} (h:PlantS p) (r:Nn) (hr:r.Nc.length < 1000):loop (Qlk r p) 0=some (match XK (Jr p r) r.Nc.length with | some i=>.inl (Jr p r i) | none=>.inr ()) :=
 Qat (fun k=>(k:Int)) r.Nc.length (Jr p r) (fun _ e=>e) () (fun k hk _=>by
  have hs:Jr p r k=rsE p r k r.Nc[k]:=Z9 _ _ _ hk;rw [hs];unfold Qlk rsE;rw [XZ hk,cond_true,XA hk,Qo,Qbg (by omega),Qo,Qzy p h.se,Qo,Yt,Qo,Qeo _ _ (by simp;omega),Qo,Yt,Qo,Zz _ (by simp),Qo,X1 k (by omega)];cases Yx p r.Nc[k]<;>cases decide (r.Nc[k]∈r.Nc.take k)<;>rfl) (fun _=>by
  unfold Qlk;rw [X2];rfl)
theorem QPk {p:Nf} (r:Nn) (hr:r.Nc.length < 1000) (hn:r.Nr.length < 1000) (he:r.Nr.length=p.Na.length):loop (Qll r p) 0=some (Yi (JI r) (fun _ _=>(2:Int)) 0 (r.Nr.zip p.Na)) :=
 Zb (r.Nr.zip p.Na) _ _ (fun k hk=>by
  rw [Qol he] at hk;unfold Qll;rw [XZ hk,cond_true,XA hk,Qo,XA (show k < p.Na.length by omega),Qo,Qeo _ _ (by omega),Qo,X1 k (by omega)];simp only [List.getElem_zip,JI];rw [show Qez r.Nr[k]=some (decide (r.Nr[k]=0)||decide (r.Nr[k]=1)) from rfl];cases decide (p.Na[k].Nq∈r.Nc)<;>rfl) (by
  rw [Qol he];unfold Qll;rw [X2];rfl)
theorem QPo {p:Nf} (h:PlantS p) (k:Nat) (hk:k < p.Ni.length):Qlm p k=some (rtX p p.Ni[k]):=by
 obtain ⟨_,hr,hn⟩:=h.rn _ (List.getElem_mem hk);have h1:=h.se;have h2:=h.sw;unfold Qlm rtX;rw [XA hk,Qo,Yt,Qo,Yt,Qo,Zz _ (by simp),Qo];generalize p.Ni[k]=r at hr hn ⊢;by_cases h3:r.Nc.length < 2
 ·rw [if_pos h3,decide_eq_false (show ¬ (2<=(r.Nc.length:Int)) by omega)];rfl
 rw [if_neg h3,decide_eq_true (show 2<=(r.Nc.length:Int) by omega)];by_cases h4:p.Nc.length < r.Nc.length
 ·rw [if_pos h4,decide_eq_false (show ¬ ((r.Nc.length:Int)<=p.Nc.length) by omega)];rfl
 rw [if_neg h4,decide_eq_true (show (r.Nc.length:Int)<=p.Nc.length by omega),QPl h r hr];simp only [ZH,cond_true,if_true,decide_true,Bool.not_true,cond_false,Qo];cases XK (Jr p r) r.Nc.length with
 | some i=>rfl
 | none =>
  simp only [Xv];by_cases h5:r.Nr.length=p.Na.length
  ·rw [if_pos h5,decide_eq_true (by omega),Bool.not_true,cond_false,QPk r hr hn h5,Qo];rcases Js (p:=JI r) (res:=fun _ _=>(2:Int)) (r.Nr.zip p.Na) 0 with ⟨k1,k2⟩ | ⟨j,x,k1,k2,k3⟩
   ·rw [k1,k2];rfl
   ·rw [k1,k3];rfl
  ·rw [if_neg h5,decide_eq_false (by omega)];rfl
theorem QQa {p:Nf} (h:PlantS p):Qlf 4 p.Ni p=some (match XK (ZC p) p.Ni.length with | some i=>(Np.mk 4 i,ZC p i) | none=>(Np.mk 0 0,0)):=by
 have hl:=h.ro;unfold Qlf;have key:loop (Qhi p p.Ni 4) (0,[])=some (match XK (ZC p) p.Ni.length with | some i=>.inl (Np.mk 4 i,ZC p i) | none=>.inr ()):=by
  refine Qat (step:=Qhi p p.Ni 4) (fun k=>((k:Int),(p.Ni.take k).map (·.Name))) p.Ni.length (ZC p) (fun i e=>(Np.mk 4 i,e)) () (fun k hk _=>?_) (fun _=>?_)
  ·have hs:ZC p k=rtE p k p.Ni[k]:=Z9 _ _ _ hk;have hi:=fun h=>Qqc p.Ni (·.Name) k hk h
   rw [hs];unfold Qhi rtE;simp only [XZ hk,cond_true,XA hk,Qo];rw [show Qqp p.Ni[k]=some p.Ni[k].Name from rfl,Qo,Qqf _ (h.rn _ (List.getElem_mem hk)).1,Qo];simp only [Yt,Qo];rw [Zz _ (by simp),Qo,Qrg,show Qku (k:Int) p=some (rtX p p.Ni[k]) by unfold Qku;rw [QPo h k hk];rfl];by_cases h1:ZA p.Ni[k].Name ((p.Ni.take k).map (·.Name))=0
   ·simp only [h1,hi (Qrh h1),if_true,decide_true,Bool.true_and,cond_true,Qo,X1 k (show k < 4611686018427387904 by omega)];by_cases h2:rtX p p.Ni[k]=0
    ·simp [h2]
    ·simp [h2]
   ·simp only [h1,if_false,decide_false,Bool.false_and,cond_false,Qo,Bool.not_false,cond_true]
  ·unfold Qhi;simp only [X2];rfl
 rw [key,Qo];cases XK (ZC p) p.Ni.length<;>rfl
theorem QDs {p:Nf} (h:PlantS p):Qkv p=some (ZB p):=by
  unfold Qkv ZB;rw [Yt,Qo,Yt,Qo,Zz _ (by simp),Qo];by_cases h1:p.Nc.length=0\/p.Nb.length=0
  · rw [if_pos h1, show (decide (0 < (p.Nc.length : Int)) && decide (0 < (p.Nb.length : Int))) = false by
      rcases h1 with h1 | h1
      · rw [decide_eq_false (show ¬ (0 < (p.Nc.length:Int)) by omega)];rfl
      · rw [decide_eq_false (show ¬ (0 < (p.Nb.length:Int)) by omega),Bool.and_false]]
    rfl
  rw [if_neg h1,decide_eq_true (show 0 < (p.Nc.length:Int) by omega),decide_eq_true (show 0 < (p.Nb.length:Int) by omega)];by_cases h2:8 < p.Nc.length\/3 < p.Nb.length\/4 < p.Na.length\/10 < p.Ni.length
  · rw [if_pos h2, show (((decide (8 < (p.Nc.length : Int)) || decide (3 < (p.Nb.length : Int))) || decide (4 < (p.Na.length : Int))) || decide (10 < (p.Ni.length : Int))) = true by
      simp only [Bool.or_eq_true,decide_eq_true_eq];omega]
    rfl
  rw [if_neg h2, show (((decide (8 < (p.Nc.length : Int)) || decide (3 < (p.Nb.length : Int))) || decide (4 < (p.Na.length : Int))) || decide (10 < (p.Ni.length : Int))) = false by
      rw [decide_eq_false (by omega),decide_eq_false (by omega),decide_eq_false (by omega),decide_eq_false (by omega)];rfl]
  unfold Qql Qqm Qqo Qqq;rw [Qxr _ _ h.se h.sn,Qxr _ _ h.tr h.tn,QSd h,QQa h];have hz:∀ {f:Nat->Int} {n i:Nat},XK f n=some i->f i≠0:=fun {f n i} hf=>by
    rcases Qkd f n with ⟨k1,_⟩ | ⟨j,k1,_,k3,_⟩
    · rw [k1] at hf;cases hf
    · rw [k1] at hf;cases hf;exact k3
  simp only [Bool.true_and,Bool.not_false,cond_true,ZH,if_true,decide_true,Bool.not_true,cond_false,Qo];cases h3:XK (Zk p.Nc) p.Nc.length with
  | some i=>simp [hz h3]
  | none =>
    simp only [decide_true,Bool.not_true,cond_false];cases h4:XK (Zk p.Nb) p.Nb.length with
    | some i=>simp [hz h4]
    | none =>
      simp only [decide_true,Bool.not_true,cond_false];cases h5:XK (ZE p) p.Na.length with
      | some i=>simp [hz h5]
      | none =>
        simp only [decide_true,Bool.not_true,cond_false];cases h6:XK (ZC p) p.Ni.length with
        | some i=>simp [hz h6]
        | none=>simp
theorem Qyz {p:Nf} (h:PlantS p):Qdk p=some (ZB p).2:=by
 unfold Qdk;rw [QDs h];rfl
end Go.Gw

end
section
set_option maxRecDepth 4096
namespace Go.Gw
open Go
attribute [local irreducible] loop
theorem Qjv {α:Type} {xs:List α} (h:1<=xs.length):cut xs 1 (xs.length:Int)=some (xs.drop 1):=by
 unfold cut;rw [if_pos (by omega),Int.toNat_natCast,List.take_length];rfl
structure StateS (x:Ng):Prop where
 sw:x.Na.length < 1000
 tr:x.Nb.length < 1000
 ch:∀ t∈x.Nb,t.Nd.length < 1000
def XW (x:Ng) (s:Int):Int:=Qab (fun t:Nj=>decide (s∈t.Nd)) x.Nb
def Y6 (x:Ng) (s:Int):Bool:=x.Nb.any fun t=>decide (s∈t.Nd)
theorem Qkk (x:Ng) (s:Int):decide (0<=XW x s)=Y6 x s:=Qqe _ _
theorem QHf (p:Nf) {x:Ng} (h:StateS x) (s:Int):Qlb (some ⟨p,x⟩) s=some (XW x s):=by
 have h1:=h.tr;unfold Qlb Qsu XW Qab;rw [Qo];show (Option.bind (Option.bind (loop (Qno s x.Nb) 0) _) _)=_;rw [Zb x.Nb (fun t=>decide (s∈t.Nd)) (fun k _=>(k:Int)),Qo,Qdu,Qo]
 ·intro k hk;unfold Qno Qqy;rw [XZ hk,cond_true,XA hk,Qo,Qeo _ _ (by have:=h.ch _ (List.getElem_mem hk);omega),Qo,Qo,X1 k (by omega)]
 ·unfold Qno;rw [X2];rfl
theorem Qtk (p:Nf) {x:Ng} (h:StateS x) (l:List Int) (hl:l.length < 1000):Qfc (some ⟨p,x⟩) l=some (l.any (Y6 x)):=by
 unfold Qfc Qsr Qsy;rw [Zb l (Y6 x) (fun k _=>(k:Int)),Qo,Qdu,Qo,Qin]
 ·rfl
 ·intro k hk;unfold Qsx Qrb;rw [XZ hk,cond_true,XA hk,Qo,QHf p h,Qo,Qo,Qkk,X1 k (by omega)]
 ·unfold Qsx;rw [X2];rfl
def Qha (secs:List Int) (q:Ns×(Int×Int)):Bool:=decide (q.1.Nq∈secs)&&!decide (q.2.1=q.2.2)
def Zs (p:Nf) (sw:List Int) (r:Nn) (secs:List Int):Bool:=!((p.Na.zip (r.Nr.zip sw)).any (Qha secs))
theorem QRl (α:Type) (p:α->Bool) (l:List α):(Xv (Yi p (fun _ _=>false) 0 l) fun (_:Unit)=>some true)=some (!(l.any p)):=by
 rcases Js (p:=p) (res:=fun _ _=>false) l 0 with ⟨k1,k2⟩ | ⟨j,x,k1,k2,k3⟩
 ·rw [k1,k2];rfl
 ·rw [k1,k3];rfl
theorem Qwu {p:Nf} {x:Ng} {r:Nn} {secs:List Int} (h1:r.Nr.length=p.Na.length) (h2:x.Na.length=p.Na.length) (h3:p.Na.length < 1000) (hs:secs.length < 1000):Qhf (some ⟨p,x⟩) r secs=some (Zs p x.Na r secs):=by
 unfold Qhf Zs;have hlen:(p.Na.zip (r.Nr.zip x.Na)).length=p.Na.length:=by simp [h1,h2]
 rw [Qo,Zb (p.Na.zip (r.Nr.zip x.Na)) (Qha secs) (fun _ _=>false),Qo,QRl]
 ·intro k hk;rw [hlen] at hk;unfold Qra;rw [XZ hk,cond_true,XA hk,Qo,Qeo _ _ (by omega),Qo,X1 k (by omega)];simp only [Qo];rw [XA (show k < r.Nr.length by omega),XA (show k < x.Na.length by omega)];simp only [List.getElem_zip,Qha,Qo];cases decide (p.Na[k].Nq∈secs)<;>rfl
 ·rw [hlen];unfold Qra;rw [X2];rfl
theorem QDv (l:List Nj) (h:l.length < 1000000):Qnj l=some l:=by
 unfold Qnj;rw [JS (by simp;omega)];rfl
theorem Qpj (l:List Int) (h:l.length < 1000000):Qcp l=some l:=by
 unfold Qcp;rw [JS (by simp;omega)];rfl
theorem Qbi {α:Type} {xs:List α} {i:Int} (h0:0<=i) (h:i.toNat < xs.length):idx xs i=some xs[i.toNat]:=by
 unfold idx;rw [if_pos h0,List.getElem?_eq_getElem h]
theorem QKs (p:Nf) (x:Ng) {a:Int} (h0:0<=a) (hk:a.toNat < x.Nb.length) (hl:x.Nb.length < 1000) (c:List Int) (u:Int):Qbk (some ⟨p,x⟩) a c u=some (some ⟨p,⟨x.Na,x.Nb.set a.toNat ⟨c,u⟩,x.Nh⟩⟩):=by
 unfold Qbk;rw [Qo,QDv _ (by show x.Nb.length < _;omega),Qo];show Option.bind (idx x.Nb a) _=_;rw [Qbi h0 hk,Qo]
theorem QHa (n:Nat) (h:n < 1000000):Qnn (n:Int)=some []:=by
 unfold Qnn;rw [decide_eq_false (show ¬ (n:Int) < 0 by omega)];simp only [cond_false,Qo,Int.natCast_zero,Int.sub_zero];rw [show w64 (0:Int)=0 from rfl,Int.sub_zero,YY (by omega)];by_cases h0:0 < (n:Int)
 ·rw [decide_eq_true h0,cond_true];unfold mkZ
  first
  | (rw [if_pos (by omega),Qo];unfold cut;rw [if_pos (by simp)];rfl)
  | skip
 ·rw [decide_eq_false h0];rfl
theorem QDz (a b:List Int) (ha:a.length < 1000) (hb:b.length < 1000):Qnk [a,b]=some (a++b):=by
 have f0:Qfp [a,b] (0,0)=some (.inl ((a.length:Int),1)):=by
  unfold Qfp;simp only [show decide ((0:Int) < (([a,b]:List (List Int)).length:Int))=true from rfl,cond_true,show idx [a,b] (0:Int)=some a from rfl,Qo,Int.zero_add];rw [YY (by omega),decide_eq_false (by omega)];rfl
 have f1:Qfp [a,b] ((a.length:Int),1)=some (.inl (((a.length+b.length:Nat):Int),2)):=by
  unfold Qfp;simp only [show decide ((1:Int) < (([a,b]:List (List Int)).length:Int))=true from rfl,cond_true,show idx [a,b] (1:Int)=some b from rfl,Qo];rw [YY (by omega),decide_eq_false (by omega),show ((a.length:Int)+(b.length:Int))=((a.length+b.length:Nat):Int) by omega];rfl
 have f2:Qfp [a,b] (((a.length+b.length:Nat):Int),2)=some (.inr ((a.length+b.length:Nat):Int)):=rfl;have g0:Qfq [a,b] ([],0)=some (.inl (a,1)):=by
  unfold Qfq;simp only [show decide ((0:Int) < (([a,b]:List (List Int)).length:Int))=true from rfl,cond_true,show idx [a,b] (0:Int)=some a from rfl,Qo];rw [JS (by simp;omega)];rfl
 have g1:Qfq [a,b] (a,1)=some (.inl (a++b,2)):=by
  unfold Qfq;simp only [show decide ((1:Int) < (([a,b]:List (List Int)).length:Int))=true from rfl,cond_true,show idx [a,b] (1:Int)=some b from rfl,Qo];rw [JS (by omega)];rfl
 have g2:Qfq [a,b] (a++b,2)=some (.inr (a++b)):=rfl;unfold Qnk;rw [Qac f0,Qac f1,JH f2,Qo,QHa _ (by omega),Qo,Qac g0,Qac g1,JH g2,Qo]
/-! ### Events -/
def J3 (p:Nf) (n:Int):Bool:=decide (0<=n)&&decide (n<=(p.Nb.length:Int) - 1)
def Qdx (p:Nf) (n:Int):Bool:=decide (0<=n)&&decide (n<=(p.Na.length:Int) - 1)
def Qdr (p:Nf) (n:Int):Bool:=decide (0<=n)&&decide (n<=(p.Ni.length:Int) - 1)
def Y4 (n:Int):Bool:=decide (n=0)||decide (n=1)
def Zp (p:Nf) (e:Nl):Int :=
 if ¬ (0<=e.Kind/\e.Kind<=6) then 15 else if e.Kind=2 then (bif Qdx p e.A then (bif Y4 e.B then 0 else 2) else 6) else
 bif J3 p e.A then (if e.Kind=0 then (bif Yx p e.B then 0 else 6) else if e.Kind=1 then (bif Qdr p e.B then 0 else 6) else if e.B=0 then 0 else 3) else 6
theorem Qkr {n:Int} {k:Nat} (hk:k < 1000):Jk n 0 (w64 ((k:Int) - 1))=some (decide (0<=n)&&decide (n<=(k:Int) - 1)):=by
 rw [Qtw,YY (by omega)]
theorem Qzz {p:Nf} (h:PlantS p) (n:Int):Qhm p n=some (bif Yx p n then 0 else 6):=by
 unfold Qhm;rw [Qkr h.se,Qo,Yt];rfl
theorem QTc {p:Nf} (h:PlantS p) (n:Int):Qlo p n=some (bif J3 p n then 0 else 6):=by
 unfold Qlo;rw [Qkr h.tr,Qo,Yt];rfl
theorem Qvu {p:Nf} (h:PlantS p) (e:Nl):Qhd p e=some (Zp p e):=by
  unfold Qhd Zp;rw [QHn,Qo];by_cases hk:0<=e.Kind/\e.Kind<=6
  · rw [if_neg (by omega),show (decide (0<=e.Kind)&&decide (e.Kind<=6))=true by simp [hk.1,hk.2]];simp only [Bool.not_true,cond_false];by_cases h2:e.Kind=2
    · rw [if_pos h2,decide_eq_true h2,cond_true,Qkr h.sw,Qo,Yt,Qo,show Qez e.B=some (Y4 e.B) from rfl,Qo,Yt,Qo,Zz _ (by simp),Qo];show some (ZH [bif Qdx p e.A then 0 else 6,_])=_;cases Qdx p e.A<;>cases Y4 e.B<;>rfl
    · rw [if_neg h2,decide_eq_false h2,cond_false,Yt,Qo,Qzz h,Qo,Qkr h.ro,Qo,Yt,Qo,QTc h];show (Option.bind (bif decide (e.Kind=0) then some (bif Yx p e.B then 0 else 6) else bif decide (e.Kind=1) then some (bif Qdr p e.B then 0 else 6) else some _) _)=_;by_cases h0:e.Kind=0
      · rw [if_pos h0,decide_eq_true h0,cond_true,Qo,Qo,Zz _ (by simp),Qo];cases J3 p e.A<;>cases Yx p e.B<;>rfl
      · rw [if_neg h0,decide_eq_false h0,cond_false];by_cases h1:e.Kind=1
        · rw [if_pos h1,decide_eq_true h1,cond_true,Qo,Qo,Zz _ (by simp),Qo];cases J3 p e.A<;>cases Qdr p e.B<;>rfl
        · rw [if_neg h1,decide_eq_false h1,cond_false,Qo,Qo,Zz _ (by simp),Qo];by_cases h3:e.B=0
          · rw [if_pos h3,decide_eq_true h3];cases J3 p e.A<;>rfl
          · rw [if_neg h3,decide_eq_false h3];cases J3 p e.A<;>rfl
  · rw [if_pos hk, show (decide (0 <= e.Kind) && decide (e.Kind <= 6)) = false by
      rw [Bool.and_eq_false_iff,decide_eq_false_iff_not,decide_eq_false_iff_not];omega]
    rfl
def Zx (x:Ng) (e:Nl):Nj:=x.Nb[e.A.toNat]?.getD ⟨[],0⟩
def Qdw (p:Nf) (e:Nl):Ns:=p.Na[e.A.toNat]?.getD ⟨ByteArray.mk #[],0⟩
def JM (p:Nf) (e:Nl):Nn:=p.Ni[e.B.toNat]?.getD ⟨ByteArray.mk #[],[],[]⟩
def ZO (p:Nf) (x:Ng) (e:Nl):Int :=
 if e.Kind=2 then (bif Y6 x (Qdw p e).Nq then 17 else 0) else
 if e.Kind=0 then (if (Zx x e).Nd.length=0 then (bif Y6 x e.B then 17 else 0) else 22) else
 if (Zx x e).Nd.length=0 then 22 else
 if e.Kind=1 then (if (JM p e).Nc.head?=(Zx x e).Nd.getLast? then (bif ((JM p e).Nc.drop 1).any (Y6 x) then 17 else bif Zs p x.Na (JM p e) (JM p e).Nc then 0 else 13) else 23) else
 if e.Kind=4 then (if 1 < (Zx x e).Nk then 0 else 12) else
 if e.Kind=3\/e.Kind=5 then (if (Zx x e).Nk < (Zx x e).Nd.length then 0 else 12) else
 if (Zx x e).Nd.length=1 then 0 else 17
def trX (p:Nf) (t:Nj) (e:Nl):Nj :=
 if e.Kind=0 then ⟨[e.B],1⟩ else if e.Kind=1 then ⟨t.Nd++(JM p e).Nc.drop 1,t.Nk⟩ else if e.Kind=3 then ⟨t.Nd,t.Nk+1⟩ else
 if e.Kind=4 then ⟨t.Nd.drop 1,t.Nk - 1⟩ else if e.Kind=5 then ⟨t.Nd.take (t.Nd.length - 1),t.Nk⟩ else ⟨[],0⟩
def Y5 (p:Nf) (x:Ng) (e:Nl):Ng :=
 if e.Kind=2 then ⟨x.Na.set e.A.toNat e.B,x.Nb,x.Nh⟩ else ⟨x.Na,x.Nb.set e.A.toNat (trX p (Zx x e) e),x.Nh⟩
end Go.Gw

end
section
set_option maxRecDepth 4096
namespace Go.Gw
open Go
attribute [local irreducible] loop
theorem Qgw {f:Nat->Int} {n:Nat} (h:XK f n=none):∀ j,j < n->f j=0:=by
 rcases Qkd f n with ⟨_,h2⟩ | ⟨i,h1,_⟩
 ·exact h2
 ·rw [h1] at h;cases h
theorem Qaq {f:Nat->Int} {n i:Nat} (h:XK f n=some i):i < n/\f i≠0/\∀ j,j < i->f j=0:=by
 rcases Qkd f n with ⟨h1,_⟩ | ⟨j,h1,h2,h3,h4⟩
 ·rw [h1] at h;cases h
 ·rw [h1] at h;cases h;exact ⟨h2,h3,h4⟩
theorem QGp {f:Nat->Int} {n:Nat} (h:∀ j,j < n->f j=0):XK f n=none:=by
 cases hf:XK f n with
 | none=>rfl
 | some i=>obtain ⟨h1,h2,_⟩:=Qaq hf;exact absurd (h i h1) h2
theorem Qyn {α:Type} {l:List α} (h:∀ k (hk:k < l.length),l[k]∉l.take k):l.Nodup:=by
 unfold List.Nodup;rw [List.pairwise_iff_getElem];intro i j hi hj hij e;refine h j hj ?_;rw [<-e];exact List.mem_take_iff_getElem.2 ⟨i,by omega,rfl⟩
theorem QNe {α:Type} {l:List α} (h:l.Nodup) {k:Nat} (hk:k < l.length):l[k]∉l.take k:=by
 intro hm;obtain ⟨i,hi,e⟩:=List.mem_take_iff_getElem.1 hm;unfold List.Nodup at h;rw [List.pairwise_iff_getElem] at h;exact h i k (by omega) hk (by omega) e
structure PlantOk (p:Nf):Prop where
 s1:1<=p.Nc.length
 s8:p.Nc.length<=8
 t1:1<=p.Nb.length
 t3:p.Nb.length<=3
 w4:p.Na.length<=4
 r10:p.Ni.length<=10
 ws:∀ s∈p.Na,Yx p s.Nq=true
 r2:∀ r∈p.Ni,2<=r.Nc.length
 r8:∀ r∈p.Ni,r.Nc.length<=p.Nc.length
 rs:∀ r∈p.Ni,∀ s∈r.Nc,Yx p s=true
 rd:∀ r∈p.Ni,r.Nc.Nodup
 rn:∀ r∈p.Ni,r.Nr.length=p.Na.length
 rx:∀ r∈p.Ni,(r.Nr.zip p.Na).any (JI r)=false
theorem Qfl {p:Nf} {r:Nn} (h:rtX p r=0):2<=r.Nc.length/\r.Nc.length<=p.Nc.length/\(∀ s∈r.Nc,Yx p s=true)/\r.Nc.Nodup/\r.Nr.length=p.Na.length/\(r.Nr.zip p.Na).any (JI r)=false:=by
 unfold rtX at h;by_cases h1:r.Nc.length < 2
 ·rw [if_pos h1] at h;cases h
 rw [if_neg h1] at h;by_cases h2:p.Nc.length < r.Nc.length
 ·rw [if_pos h2] at h;cases h
 rw [if_neg h2] at h;cases hf:XK (Jr p r) r.Nc.length with
 | some i=>rw [hf] at h;exact absurd h (Qaq hf).2.1
 | none =>
  rw [hf] at h;have hz:∀ k (hk:k < r.Nc.length),rsE p r k r.Nc[k]=0:=fun k hk=>by
   have:=Qgw hf k hk;rwa [show Jr p r k=rsE p r k r.Nc[k] from Z9 _ _ _ hk] at this
  have hz2:∀ k (hk:k < r.Nc.length),Yx p r.Nc[k]=true/\r.Nc[k]∉r.Nc.take k:=fun k hk=>by
   have:=hz k hk;unfold rsE at this;cases hb:Yx p r.Nc[k] with
   | false=>rw [hb] at this;cases this
   | true =>
    rw [hb,cond_true] at this;refine ⟨rfl,fun hm=>?_⟩;rw [decide_eq_true hm] at this;cases this
  have h3:r.Nr.length=p.Na.length/\(r.Nr.zip p.Na).any (JI r)=false:=by
   by_cases h5:r.Nr.length=p.Na.length
   ·simp only [h5,if_true] at h;refine ⟨h5,?_⟩;cases hb:(r.Nr.zip p.Na).any (JI r) with
    | false=>rfl
    | true=>rw [hb] at h;cases h
   ·simp only [h5,if_false] at h;cases h
  refine ⟨by omega,by omega,fun s hs=>?_,Qyn fun k hk=>(hz2 k hk).2,h3.1,h3.2⟩;obtain ⟨k,hk,rfl⟩:=List.getElem_of_mem hs;exact (hz2 k hk).1
theorem Qmc {p:Nf} (h:(ZB p).2=0):PlantOk p:=by
 unfold ZB at h;by_cases h1:p.Nc.length=0\/p.Nb.length=0
 ·rw [if_pos h1] at h;cases h
 rw [if_neg h1] at h;by_cases h2:8 < p.Nc.length\/3 < p.Nb.length\/4 < p.Na.length\/10 < p.Ni.length
 ·rw [if_pos h2] at h;cases h
 rw [if_neg h2] at h;cases h3:XK (Zk p.Nc) p.Nc.length with
 | some i=>rw [h3] at h;exact absurd h (Qaq h3).2.1
 | none =>
  rw [h3] at h;cases h4:XK (Zk p.Nb) p.Nb.length with
  | some i=>rw [h4] at h;exact absurd h (Qaq h4).2.1
  | none =>
   rw [h4] at h;cases h5:XK (ZE p) p.Na.length with
   | some i=>rw [h5] at h;exact absurd h (Qaq h5).2.1
   | none =>
    rw [h5] at h;cases h6:XK (ZC p) p.Ni.length with
    | some i=>rw [h6] at h;exact absurd h (Qaq h6).2.1
    | none =>
     have hr:∀ r∈p.Ni,rtX p r=0:=fun r hr=>by
      obtain ⟨k,hk,rfl⟩:=List.getElem_of_mem hr;have:=Qgw h6 k hk;rw [show ZC p k=rtE p k p.Ni[k] from Z9 _ _ _ hk] at this;unfold rtE at this;by_cases hn:ZA p.Ni[k].Name ((p.Ni.take k).map (·.Name))=0
      ·rwa [if_pos hn] at this
      ·rw [if_neg hn] at this;exact absurd this hn
     refine ⟨by omega,by omega,by omega,by omega,by omega,by omega,fun s hs=>?_,fun r h=>(Qfl (hr r h)).1,fun r h=>(Qfl (hr r h)).2.1,fun r h=>(Qfl (hr r h)).2.2.1,fun r h=>(Qfl (hr r h)).2.2.2.1,fun r h=>(Qfl (hr r h)).2.2.2.2.1,fun r h=>(Qfl (hr r h)).2.2.2.2.2⟩;obtain ⟨k,hk,rfl⟩:=List.getElem_of_mem hs;have:=Qgw h5 k hk;rw [show ZE p k=swE p k p.Na[k] from Z9 _ _ _ hk] at this;unfold swE at this;by_cases hn:ZA p.Na[k].Name ((p.Na.take k).map (·.Name))=0
     ·rw [if_pos hn] at this;unfold swX at this;cases hb:Yx p p.Na[k].Nq with
      | true=>rfl
      | false=>rw [hb] at this;cases this
     ·rw [if_neg hn] at this;exact absurd this hn
def Qag (r:Nn) (a b:Int):Bool:=(r.Nc.zip (r.Nc.drop 1)).any fun q=>decide (q.1=a)&&decide (q.2=b)
def Qas (p:Nf) (sw:List Int) (a b:Int):Bool:=p.Ni.any fun r=>Qag r a b&&Zs p sw r [a,b]
theorem pairB_iff {r:Nn} {a b:Int}:Qag r a b=true↔∃ k,∃ hk:k+1 < r.Nc.length,r.Nc[k]=a/\r.Nc[k+1]=b:=by
 unfold Qag;rw [List.any_eq_true];constructor
 ·rintro ⟨q,hq,h⟩;obtain ⟨k,hk,rfl⟩:=List.getElem_of_mem hq;simp only [List.length_zip,List.length_drop] at hk;simp only [List.getElem_zip,List.getElem_drop,Bool.and_eq_true,decide_eq_true_eq] at h;refine ⟨k,by omega,h.1,?_⟩;rw [<-h.2];congr 1;omega
 ·rintro ⟨k,hk,h1,h2⟩;refine ⟨(r.Nc[k],r.Nc[k+1]),?_,by simp [h1,h2]⟩;rw [List.mem_iff_getElem];refine ⟨k,by simp only [List.length_zip,List.length_drop];omega,?_⟩;simp only [List.getElem_zip,List.getElem_drop,Prod.mk.injEq,true_and];congr 1;omega
structure StateOk (p:Nf) (x:Ng):Prop where
 sw:x.Na.length=p.Na.length
 tr:x.Nb.length=p.Nb.length
 pos:∀ n∈x.Na,Y4 n=true
 cnt:Qcd x.Nh=true
 un:∀ t∈x.Nb,(t.Nd=[]/\t.Nk=0)\/(1<=t.Nk/\t.Nk<=t.Nd.length)
 sc:∀ t∈x.Nb,∀ s∈t.Nd,Yx p s=true
 nd:∀ t∈x.Nb,t.Nd.Nodup
 dj:∀ i j (hi:i < x.Nb.length) (hj:j < x.Nb.length),i≠j->∀ s∈x.Nb[i].Nd,s∉x.Nb[j].Nd
 ld:∀ t∈x.Nb,∀ k (hk:k+1 < t.Nd.length),Qas p x.Na t.Nd[k] t.Nd[k+1]=true
theorem Qym:∀ (n:Nat) (l:List Int),l.Nodup->(∀ s∈l,0<=s/\s < (n:Int))->l.length<=n
  | 0,l,_,h=>by
    cases l with
    | nil=>simp
    | cons x xs=>have:=h x (by simp);omega
  | n+1,l,hn,h=>by
    have h1:=Qym n (l.filter fun s=>decide (s≠(n:Int))) (hn.filter _) fun s hs=>by
      rw [List.mem_filter] at hs;have:=h s hs.1;have:=hs.2;simp at this;omega
    have h2:l.length<=(l.filter fun s=>decide (s≠(n:Int))).length+1:=by
      clear h h1
      induction l with
      | nil=>simp
      | cons x xs ih =>
        rw [List.nodup_cons] at hn;by_cases hx:x=(n:Int)
        · have : xs.filter (fun s => decide (s ≠ (n : Int))) = xs := by
            rw [List.filter_eq_self];intro a ha;simp only [ne_eq,decide_not,Bool.not_eq_true',decide_eq_false_iff_not];intro e;subst hx;subst e;exact hn.1 ha
          rw [List.filter_cons_of_neg (by simp [hx]),this];simp
        · rw [List.filter_cons_of_pos (by simp [hx])];have:=ih hn.2;simp only [List.length_cons];omega
    omega
theorem StateOk.len {p:Nf} {x:Ng} (h:StateOk p x) {t:Nj} (ht:t∈x.Nb):t.Nd.length<=p.Nc.length :=
 Qym _ _ (h.nd t ht) fun s hs=>by
  have:=h.sc t ht s hs;unfold Yx at this;simp at this;omega
theorem StateOk.s {p:Nf} (hp:PlantOk p) {x:Ng} (h:StateOk p x):StateS x :=
 ⟨by have:=h.sw;have:=hp.w4;omega,by have:=h.tr;have:=hp.t3;omega,fun t ht=>by have:=h.len ht;have:=hp.s8;omega⟩
end Go.Gw

end
section
set_option maxRecDepth 4096
namespace Go.Gw
open Go
attribute [local irreducible] loop
theorem liesB_iff {p:Nf} {sw:List Int} {r:Nn} {secs:List Int}:Zs p sw r secs=true↔∀ k (h1:k < p.Na.length) (h2:k < r.Nr.length) (h3:k < sw.length),p.Na[k].Nq∈secs->r.Nr[k]=sw[k]:=by
  unfold Zs;rw [Bool.not_eq_true',List.any_eq_false];constructor
  · intro h k h1 h2 h3 hm;have:=h (p.Na[k],(r.Nr[k],sw[k])) (by
      rw [List.mem_iff_getElem];exact ⟨k,by simp only [List.length_zip];omega,by simp only [List.getElem_zip]⟩)
    simp only [Qha,hm,decide_true,Bool.true_and,Bool.not_eq_true',decide_eq_false_iff_not,Decidable.not_not] at this;exact this
  · intro h q hq;obtain ⟨k,hk,rfl⟩:=List.getElem_of_mem hq;simp only [List.length_zip] at hk;simp only [List.getElem_zip,Qha,Bool.and_eq_true,decide_eq_true_eq,Bool.not_eq_true',decide_eq_false_iff_not,not_and,Decidable.not_not];exact fun hm=>h k (by omega) (by omega) (by omega) hm
theorem QIc {p:Nf} {sw:List Int} {r:Nn} {a b:List Int} (h:Zs p sw r a=true) (hs:∀ s∈b,s∈a):Zs p sw r b=true :=
 liesB_iff.2 fun k h1 h2 h3 hm=>liesB_iff.1 h k h1 h2 h3 (hs _ hm)
theorem QId {p:Nf} {sw:List Int} {r:Nn} {a:List Int} {i:Nat} {v:Int} (hi:∀ h:i < p.Na.length,p.Na[i].Nq∉a) (h:Zs p sw r a=true):Zs p (sw.set i v) r a=true :=
 liesB_iff.2 fun k h1 h2 h3 hm=>by
  have hne:i≠k:=fun e=>by subst e;exact hi h1 hm
  rw [List.getElem_set_ne hne];exact liesB_iff.1 h k h1 h2 (by simpa using h3) hm
theorem leadsB_iff {p:Nf} {sw:List Int} {a b:Int}:Qas p sw a b=true↔∃ r∈p.Ni,Qag r a b=true/\Zs p sw r [a,b]=true:=by
 unfold Qas;rw [List.any_eq_true];simp only [Bool.and_eq_true]
theorem Qtj {x:Ng} {s:Int} (h:Y6 x s=false):∀ t∈x.Nb,s∉t.Nd:=by
 unfold Y6 at h;rw [List.any_eq_false] at h;intro t ht hm;exact h t ht (decide_eq_true hm)
theorem Qfo {p:Nf} {x:Ng} (h:StateOk p x) {a:Nat} (ha:a < x.Nb.length) {t:Nj} (h1:(t.Nd=[]/\t.Nk=0)\/(1<=t.Nk/\t.Nk<=t.Nd.length)) (h2:∀ s∈t.Nd,Yx p s=true) (h3:t.Nd.Nodup)
  (h4:∀ j (hj:j < x.Nb.length),j≠a->∀ s∈t.Nd,s∉x.Nb[j].Nd) (h5:∀ k (hk:k+1 < t.Nd.length),Qas p x.Na t.Nd[k] t.Nd[k+1]=true):StateOk p ⟨x.Na,x.Nb.set a t,x.Nh⟩:=by
 have hm:∀ u∈x.Nb.set a t,u=t\/u∈x.Nb:=fun u hu=>by
  rcases List.mem_or_eq_of_mem_set hu with h | h
  ·exact .inr h
  ·exact .inl h
 refine ⟨h.sw,by simpa using h.tr,h.pos,h.cnt,fun u hu=>?_,fun u hu=>?_,fun u hu=>?_,fun i j hi hj hij s hs=>?_,fun u hu=>?_⟩
 ·rcases hm u hu with rfl | hu
  ·exact h1
  ·exact h.un u hu
 ·rcases hm u hu with rfl | hu
  ·exact h2
  ·exact h.sc u hu
 ·rcases hm u hu with rfl | hu
  ·exact h3
  ·exact h.nd u hu
 ·simp only [List.length_set] at hi hj;simp only [List.getElem_set] at hs ⊢;by_cases h6:a=i
  ·rw [if_pos h6] at hs;rw [if_neg (by omega)];exact h4 j hj (by omega) s hs
  ·rw [if_neg h6] at hs;by_cases h7:a=j
   ·rw [if_pos h7];exact fun hm=>h4 i hi (by omega) s hm hs
   ·rw [if_neg h7];exact h.dj i j hi hj hij s hs
 ·rcases hm u hu with rfl | hu
  ·exact h5
  ·exact h.ld u hu
theorem Qgv {p:Nf} {e:Nl} (h:Zp p e=0):0<=e.Kind/\e.Kind<=6:=by
 unfold Zp at h;by_cases h1:¬ (0<=e.Kind/\e.Kind<=6)
 ·rw [if_pos h1] at h;cases h
 ·omega
theorem Qpu {p:Nf} {e:Nl} (h:Zp p e=0) (hk:e.Kind=2):0<=e.A/\e.A.toNat < p.Na.length/\Y4 e.B=true:=by
 have h1:=Qgv h;unfold Zp at h;rw [if_neg (by omega),if_pos hk] at h;cases hb:Qdx p e.A with
 | false=>rw [hb] at h;cases h
 | true =>
  rw [hb] at h;cases hc:Y4 e.B with
  | false=>rw [hc] at h;cases h
  | true =>
   unfold Qdx at hb;simp at hb;exact ⟨hb.1,by omega,rfl⟩
theorem Qpt {p:Nf} {e:Nl} (h:Zp p e=0) (hk:e.Kind≠2):0<=e.A/\e.A.toNat < p.Nb.length/\(e.Kind=0->Yx p e.B=true)/\(e.Kind=1->0<=e.B/\e.B.toNat < p.Ni.length)/\(e.Kind≠0->e.Kind≠1->e.B=0):=by
 have h1:=Qgv h;unfold Zp at h;rw [if_neg (by omega),if_neg hk] at h;cases hb:J3 p e.A with
 | false=>rw [hb] at h;cases h
 | true =>
  rw [hb,cond_true] at h;unfold J3 at hb;simp at hb;refine ⟨hb.1,by omega,fun h0=>?_,fun h0=>?_,fun h0 h2=>?_⟩
  ·rw [if_pos h0] at h;cases hc:Yx p e.B with
   | true=>rfl
   | false=>rw [hc] at h;cases h
  ·rw [if_neg (by omega),if_pos h0] at h;cases hc:Qdr p e.B with
   | false=>rw [hc] at h;cases h
   | true=>unfold Qdr at hc;simp at hc;omega
  ·rw [if_neg h0,if_neg h2] at h;by_cases h3:e.B=0
   ·exact h3
   ·rw [if_neg h3] at h;cases h
theorem Qfw {x:Ng} {e:Nl} (h:e.A.toNat < x.Nb.length):Zx x e=x.Nb[e.A.toNat]:=by
 unfold Zx;rw [List.getElem?_eq_getElem h];rfl
theorem Qth {p:Nf} {e:Nl} (h:e.A.toNat < p.Na.length):Qdw p e=p.Na[e.A.toNat]:=by
 unfold Qdw;rw [List.getElem?_eq_getElem h];rfl
theorem Qib {p:Nf} {e:Nl} (h:e.B.toNat < p.Ni.length):JM p e=p.Ni[e.B.toNat]:=by
 unfold JM;rw [List.getElem?_eq_getElem h];rfl
theorem QAo {p:Nf} (hp:PlantOk p) {x:Ng} (h:StateOk p x) {e:Nl} (he:Zp p e=0) (hs:ZO p x e=0):StateOk p (Y5 p x e):=by
  have hk:=Qgv he;unfold Y5;by_cases h2:e.Kind=2
  · rw [if_pos h2];obtain ⟨a0,a1,a2⟩:=Qpu he h2;unfold ZO at hs;rw [if_pos h2] at hs;have hn:Y6 x (Qdw p e).Nq=false:=by
      cases hb:Y6 x (Qdw p e).Nq with
      | false=>rfl
      | true=>rw [hb] at hs;cases hs
    rw [Qth a1] at hn;refine ⟨by simpa using h.sw,h.tr,fun n hn=>?_,h.cnt,h.un,h.sc,h.nd,h.dj,fun t ht k hk=>?_⟩
    · rcases List.mem_or_eq_of_mem_set hn with h3 | rfl
      · exact h.pos n h3
      · exact a2
    · obtain ⟨r,hr,h3,h4⟩:=leadsB_iff.1 (h.ld t ht k hk);refine leadsB_iff.2 ⟨r,hr,h3,QId (fun hi hm=>?_) h4⟩;have h5:=Qtj hn t ht;rcases List.mem_cons.1 hm with e1 | hm
      · rw [e1] at h5;exact h5 (List.getElem_mem _)
      · rw [List.mem_singleton.1 hm] at h5;exact h5 (List.getElem_mem _)
  rw [if_neg h2];obtain ⟨a0,a1,a2,a3,a4⟩:=Qpt he h2;have ha:e.A.toNat < x.Nb.length:=by rw [h.tr];exact a1
  have ht:Zx x e∈x.Nb:=by rw [Qfw ha];exact List.getElem_mem ha
  have hd:∀ j (hj:j < x.Nb.length),j≠e.A.toNat->∀ s∈(Zx x e).Nd,s∉x.Nb[j].Nd:=fun j hj hne s hs=>by
    rw [Qfw ha] at hs;exact h.dj _ j ha hj (by omega) s hs
  have hu:=h.un _ ht;have hsc:=h.sc _ ht;have hnd:=h.nd _ ht;have hld:=h.ld _ ht;unfold ZO at hs;rw [if_neg h2] at hs;unfold trX;generalize Zx x e=t at *
  by_cases h0:e.Kind=0
  · rw [if_pos h0] at hs;rw [if_pos h0];by_cases hc:t.Nd.length=0
    · rw [if_pos hc] at hs;have hn:Y6 x e.B=false:=by
        cases hb:Y6 x e.B with
        | false=>rfl
        | true=>rw [hb] at hs;cases hs
      refine Qfo h ha (.inr (by simp)) (fun s hs=>?_) (by simp) (fun j hj hne s hs hm=>?_) (fun k hk=>?_)
      · simp only [List.mem_singleton] at hs;subst hs;exact a2 h0
      · simp only [List.mem_singleton] at hs;subst hs;exact Qtj hn _ (List.getElem_mem hj) hm
      · simp at hk
    · rw [if_neg hc] at hs;cases hs
  rw [if_neg h0] at hs;rw [if_neg h0];by_cases hc:t.Nd.length=0
  · rw [if_pos hc] at hs;cases hs
  rw [if_neg hc] at hs;have hu2:1<=t.Nk/\t.Nk<=t.Nd.length:=by
    rcases hu with ⟨h3,_⟩ | h3
    · rw [h3] at hc;exact absurd rfl hc
    · exact h3
  by_cases h1:e.Kind=1
  · rw [if_pos h1] at hs;rw [if_pos h1];obtain ⟨b0,b1⟩:=a3 h1;have hr:JM p e∈p.Ni:=by rw [Qib b1];exact List.getElem_mem b1
    generalize JM p e=r at *
    by_cases h3:r.Nc.head?=t.Nd.getLast?
    · rw [if_pos h3] at hs;have hn:(r.Nc.drop 1).any (Y6 x)=false:=by
        cases hb:(r.Nc.drop 1).any (Y6 x) with
        | false=>rfl
        | true=>rw [hb] at hs;cases hs
      have hl:Zs p x.Na r r.Nc=true:=by
        rw [hn] at hs;cases hb:Zs p x.Na r r.Nc with
        | true=>rfl
        | false=>rw [hb] at hs;cases hs
      rw [List.any_eq_false] at hn;have hn2:∀ s∈r.Nc.drop 1,∀ u∈x.Nb,s∉u.Nd:=fun s hs=>Qtj (by have:=hn s hs;simpa using this)
      have h2r:=hp.r2 r hr;have hlast:∀ hi:t.Nd.length - 1 < t.Nd.length,∀ hj:0 < r.Nc.length,t.Nd[t.Nd.length - 1]=r.Nc[0]:=fun hi hj=>by
        rw [List.head?_eq_getElem?,List.getLast?_eq_getElem?,List.getElem?_eq_getElem hj,List.getElem?_eq_getElem hi] at h3;exact (Option.some.inj h3).symm
      refine Qfo h ha (.inr ?_) (fun s hs=>?_) ?_ (fun j hj hne s hs=>?_) (fun k hk=>?_)
      · simp only [List.length_append];omega
      · rcases List.mem_append.1 hs with h4 | h4
        · exact hsc s h4
        · exact hp.rs r hr s (List.mem_of_mem_drop h4)
      · show (t.Nd++r.Nc.drop 1).Nodup;rw [List.nodup_append];refine ⟨hnd,List.Nodup.sublist (List.drop_sublist _ _) (hp.rd r hr),fun s hs u hu e=>?_⟩;subst e;exact hn2 s hu t ht hs
      · rcases List.mem_append.1 hs with h4 | h4
        · exact hd j hj hne s h4
        · exact hn2 s h4 _ (List.getElem_mem hj)
      · simp only [List.length_append,List.length_drop] at hk;by_cases h5:k+1 < t.Nd.length
        · simp only [List.getElem_append,h5,dif_pos,show k < t.Nd.length by omega];exact hld k h5
        · have e2 : (t.Nd ++ r.Nc.drop 1)[k + 1]'(by simp only [List.length_append, List.length_drop]; omega) = r.Nc[k + 1 - t.Nd.length + 1]'(by omega) := by
            rw [List.getElem_append_right (by omega),List.getElem_drop];congr 1;omega
          have e1:(t.Nd++r.Nc.drop 1)[k]'(by simp only [List.length_append, List.length_drop];omega)=r.Nc[k+1 - t.Nd.length]'(by omega) := by
            by_cases h6:k+1=t.Nd.length
            · rw [List.getElem_append_left (show k < t.Nd.length by omega)];have:=hlast (by omega) (by omega);simp only [show k+1 - t.Nd.length=0 by omega,<-this];congr 1;omega
            · rw [List.getElem_append_right (by omega),List.getElem_drop];congr 1;omega
          rw [e1,e2];refine leadsB_iff.2 ⟨r,hr,pairB_iff.2 ⟨k+1 - t.Nd.length,by omega,rfl,rfl⟩,QIc hl fun s hs=>?_⟩;rcases List.mem_cons.1 hs with rfl | hs
          · exact List.getElem_mem _
          · rw [List.mem_singleton.1 hs];exact List.getElem_mem _
    · rw [if_neg h3] at hs;cases hs
  rw [if_neg h1] at hs;rw [if_neg h1];by_cases h4:e.Kind=4
  · rw [if_pos h4] at hs;rw [if_neg (by omega),if_pos h4];have hx:1 < t.Nk:=by
      by_cases h5:1 < t.Nk
      · exact h5
      · rw [if_neg h5] at hs;cases hs
    refine Qfo h ha (.inr ?_) (fun s hs=>hsc s (List.mem_of_mem_drop hs)) (List.Nodup.sublist (List.drop_sublist _ _) hnd) (fun j hj hne s hs=>hd j hj hne s (List.mem_of_mem_drop hs)) (fun k hk=>?_)
    · simp only [List.length_drop];omega
    · simp only [List.length_drop] at hk;simp only [List.getElem_drop];have:=hld (1+k) (by omega);exact this
  rw [if_neg h4] at hs;rw [show (if e.Kind=4 then (⟨t.Nd.drop 1,t.Nk - 1⟩:Nj) else if e.Kind=5 then ⟨t.Nd.take (t.Nd.length - 1),t.Nk⟩ else ⟨[],0⟩)=(if e.Kind=5 then ⟨t.Nd.take (t.Nd.length - 1),t.Nk⟩ else ⟨[],0⟩) from if_neg h4];by_cases h35:e.Kind=3\/e.Kind=5
  · rw [if_pos h35] at hs;have hx:t.Nk < t.Nd.length:=by
      by_cases h5:t.Nk < t.Nd.length
      · exact h5
      · rw [if_neg h5] at hs;cases hs
    by_cases h3:e.Kind=3
    · rw [if_pos h3];exact Qfo h ha (.inr ⟨by show 1<=t.Nk+1;omega,by show t.Nk+1<=(t.Nd.length:Int);omega⟩) hsc hnd hd hld
    · rw [if_neg h3,if_pos (by omega)];refine Qfo h ha (.inr ?_) (fun s hs=>hsc s (List.mem_of_mem_take hs)) (List.Nodup.sublist (List.take_sublist _ _) hnd) (fun j hj hne s hs=>hd j hj hne s (List.mem_of_mem_take hs)) (fun k hk=>?_)
      · simp only [List.length_take];omega
      · simp only [List.length_take] at hk;simp only [List.getElem_take];exact hld k (by omega)
  · rw [if_neg (by omega),if_neg (by omega)];exact Qfo h ha (.inl ⟨rfl,rfl⟩) (fun s hs=>by simp at hs) (by simp) (fun j hj hne s hs=>by simp at hs) (fun k hk=>by simp at hk)
end Go.Gw

end
section
set_option maxRecDepth 4096
namespace Go.Gw
open Go
attribute [local irreducible] loop
def chE (p:Nf) (x:Ng) (n:Nat) (t:Nj) (k:Nat) (s:Int):Int :=
 bif Yx p s then (bif decide (s∈t.Nd.take k)||(x.Nb.take n).any (fun o=>decide (s∈o.Nd)) then 17 else if k=0 then 0 else bif Qas p x.Na (t.Nd[k - 1]?.getD 0) s then 0 else 23) else 6
def Qbf (p:Nf) (x:Ng) (n:Nat) (t:Nj) (k:Nat):Int:=(t.Nd[k]?.map (chE p x n t k)).getD 0
def Qbu (t:Nj):Bool:=if t.Nd.length=0 then decide (t.Nk=0) else decide (1<=t.Nk)&&decide (t.Nk<=t.Nd.length)
def tsE (p:Nf) (x:Ng) (n:Nat) (t:Nj):Int:=bif Qbu t then (match XK (Qbf p x n t) t.Nd.length with | some k=>Qbf p x n t k | none=>0) else 3
def Qak (p:Nf) (x:Ng) (n:Nat):Int:=(x.Nb[n]?.map (tsE p x n)).getD 0
def Qnp (p:Nf) (x:Ng):Int :=
 if x.Na.length=p.Na.length/\x.Nb.length=p.Nb.length then
  (bif x.Na.all Y4&&Qcd x.Nh then (match XK (Qak p x) x.Nb.length with | some k=>Qak p x k | none=>0) else 2) else 10
theorem tsE_zero {p:Nf} {x:Ng} {n:Nat} {t:Nj}:tsE p x n t=0↔Qbu t=true/\∀ k (hk:k < t.Nd.length),chE p x n t k t.Nd[k]=0:=by
 unfold tsE;cases hu:Qbu t with
 | false=>simp
 | true =>
  simp only [cond_true,true_and];have hg:∀ k (hk:k < t.Nd.length),Qbf p x n t k=chE p x n t k t.Nd[k]:=fun k hk=>Z9 _ _ _ hk
  cases hf:XK (Qbf p x n t) t.Nd.length with
  | some k =>
   obtain ⟨h1,h2,_⟩:=Qaq hf;constructor
   ·intro h;exact absurd h h2
   ·intro h;exact absurd ((hg k h1).trans (h k h1)) h2
  | none=>exact ⟨fun _ k hk=>(hg k hk).symm.trans (Qgw hf k hk),fun _=>rfl⟩
theorem chE_zero {p:Nf} {x:Ng} {n:Nat} {t:Nj} {k:Nat} {s:Int}:chE p x n t k s=0↔Yx p s=true/\s∉t.Nd.take k/\(∀ o∈x.Nb.take n,s∉o.Nd)/\(k≠0->Qas p x.Na (t.Nd[k - 1]?.getD 0) s=true):=by
  unfold chE;cases Yx p s with
  | false=>simp
  | true =>
    simp only [cond_true,true_and];by_cases h1:s∈t.Nd.take k
    · simp [h1]
    by_cases h2:∀ o∈x.Nb.take n,s∉o.Nd
    · have h3 : (x.Nb.take n).any (fun o => decide (s ∈ o.Nd)) = false := by
        rw [List.any_eq_false];intro o ho hm;exact h2 o ho (of_decide_eq_true hm)
      rw [h3,decide_eq_false h1];by_cases hk:k=0
      · simp [hk];exact h2
      · simp only [Bool.or_false,cond_false,if_neg hk];cases Qas p x.Na (t.Nd[k - 1]?.getD 0) s with
        | false=>simp [hk]
        | true=>simp [h1];exact h2
    · have h3 : (x.Nb.take n).any (fun o => decide (s ∈ o.Nd)) = true := by
        cases hb:(x.Nb.take n).any (fun o=>decide (s∈o.Nd)) with
        | true=>rfl
        | false =>
          rw [List.any_eq_false] at hb;exact absurd (fun o ho hm=>hb o ho (decide_eq_true hm)) h2
      rw [h3,Bool.or_true];simp [h2]
theorem undB_iff {t:Nj}:Qbu t=true↔(t.Nd=[]/\t.Nk=0)\/(1<=t.Nk/\t.Nk<=t.Nd.length):=by
 unfold Qbu;by_cases h:t.Nd.length=0
 ·rw [if_pos h];have h2:t.Nd=[]:=List.length_eq_zero_iff.1 h;simp only [decide_eq_true_eq];constructor
  ·intro h3;exact .inl ⟨h2,h3⟩
  ·rintro (h3 | h3)
   ·exact h3.2
   ·omega
 ·rw [if_neg h];simp only [Bool.and_eq_true,decide_eq_true_eq];constructor
  ·intro h3;exact .inr h3
  ·rintro (h3 | h3)
   ·rw [h3.1] at h;exact absurd rfl h
   ·exact h3
theorem state_iff {p:Nf} {x:Ng}:Qnp p x=0↔StateOk p x:=by
  have hg:∀ k (hk:k < x.Nb.length),Qak p x k=tsE p x k x.Nb[k]:=fun k hk=>Z9 _ _ _ hk
  unfold Qnp;constructor
  · intro h;by_cases h1:x.Na.length=p.Na.length/\x.Nb.length=p.Nb.length
    · rw [if_pos h1] at h;cases h2:x.Na.all Y4&&Qcd x.Nh with
      | false=>rw [h2] at h;cases h
      | true =>
        rw [h2,cond_true] at h;rw [Bool.and_eq_true,List.all_eq_true] at h2;cases hf:XK (Qak p x) x.Nb.length with
        | some k=>rw [hf] at h;exact absurd h (Qaq hf).2.1
        | none =>
          have hz:∀ n (hn:n < x.Nb.length),Qbu x.Nb[n]=true/\∀ k (hk:k < x.Nb[n].Nd.length),chE p x n x.Nb[n] k x.Nb[n].Nd[k]=0:=fun n hn=>tsE_zero.1 ((hg n hn).symm.trans (Qgw hf n hn))
          refine ⟨h1.1,h1.2,h2.1,h2.2,fun t ht=>?_,fun t ht s hs=>?_,fun t ht=>?_,fun i j hi hj hij s hs hm=>?_,fun t ht k hk=>?_⟩
          · obtain ⟨n,hn,rfl⟩:=List.getElem_of_mem ht;exact undB_iff.1 (hz n hn).1
          · obtain ⟨n,hn,rfl⟩:=List.getElem_of_mem ht;obtain ⟨k,hk,rfl⟩:=List.getElem_of_mem hs;exact (chE_zero.1 ((hz n hn).2 k hk)).1
          · obtain ⟨n,hn,rfl⟩:=List.getElem_of_mem ht;exact Qyn fun k hk=>(chE_zero.1 ((hz n hn).2 k hk)).2.1
          · rcases Nat.lt_or_gt_of_ne hij with h3 | h3
            · obtain ⟨k,hk,rfl⟩:=List.getElem_of_mem hm;exact (chE_zero.1 ((hz j hj).2 k hk)).2.2.1 _ (List.mem_take_iff_getElem.2 ⟨i,by omega,rfl⟩) hs
            · obtain ⟨k,hk,rfl⟩:=List.getElem_of_mem hs;exact (chE_zero.1 ((hz i hi).2 k hk)).2.2.1 _ (List.mem_take_iff_getElem.2 ⟨j,by omega,rfl⟩) hm
          · obtain ⟨n,hn,rfl⟩:=List.getElem_of_mem ht;have:=(chE_zero.1 ((hz n hn).2 (k+1) hk)).2.2.2 (by omega);rwa [Nat.add_sub_cancel,List.getElem?_eq_getElem (show k < x.Nb[n].Nd.length by omega),Option.getD_some] at this
    · rw [if_neg h1] at h;cases h
  · intro h;rw [if_pos ⟨h.sw,h.tr⟩,show (x.Na.all Y4&&Qcd x.Nh)=true by rw [Bool.and_eq_true,List.all_eq_true];exact ⟨h.pos,h.cnt⟩,cond_true];rw [QGp fun n hn=>by
      rw [hg n hn,tsE_zero];have ht:=List.getElem_mem hn;refine ⟨undB_iff.2 (h.un _ ht),fun k hk=>chE_zero.2 ⟨h.sc _ ht _ (List.getElem_mem hk),QNe (h.nd _ ht) hk,fun o ho hm=>?_,fun hk0=>?_⟩⟩
      · obtain ⟨i,hi,rfl⟩:=List.mem_take_iff_getElem.1 ho;exact h.dj i n (by omega) hn (by omega) _ hm (List.getElem_mem hk)
      · rw [List.getElem?_eq_getElem (show k - 1 < x.Nb[n].Nd.length by omega),Option.getD_some];have:=h.ld _ ht (k - 1) (by omega);simp only [show k - 1+1=k by omega] at this;exact this]
end Go.Gw

end
section
set_option maxRecDepth 4096
namespace Go.Gw
open Go
attribute [local irreducible] loop
theorem Qwh {a b:List Int} (ha:0 < a.length) (hb:0 < b.length):decide (a[0]=b[b.length - 1])=decide (a.head?=b.getLast?):=by
 rw [List.head?_eq_getElem?,List.getLast?_eq_getElem?,List.getElem?_eq_getElem ha,List.getElem?_eq_getElem (show b.length - 1 < b.length by omega)];simp only [Option.some.injEq]
theorem Qut {p:Nf} (hp:PlantOk p) {x:Ng} (h:StateOk p x) {e:Nl} (he:Zp p e=0) :
    Runs (Qfa (some ⟨p,x⟩) e) fun r=>r.2=ZO p x e/\(ZO p x e=0->r.1=some ⟨p,Y5 p x e⟩):=by
  have hs:=h.s hp;have hw4:=hp.w4;have ht3:=hp.t3;have hkd:=Qgv he;have hsl:=h.sw;have htl:=h.tr;unfold Qfa;by_cases h2:e.Kind=2
  · obtain ⟨a0,a1,a2⟩:=Qpu he h2;have e1:ZO p x e=(bif Y6 x (Qdw p e).Nq then 17 else 0):=by unfold ZO;rw [if_pos h2]
    have e2:Y5 p x e=⟨x.Na.set e.A.toNat e.B,x.Nb,x.Nh⟩:=by unfold Y5;rw [if_pos h2]
    rw [e1,e2,Qth a1,decide_eq_true h2,cond_true,Qo];show Runs (Option.bind (idx p.Na e.A) _) _;rw [Qbi a0 a1,Qo,Qtk p hs _ (by simp),Qo];simp only [List.any_cons,List.any_nil,Bool.or_false];cases Y6 x p.Na[e.A.toNat].Nq with
    | true=>exact Runs.some ⟨rfl,fun hh=>by cases hh⟩
    | false =>
      simp only [cond_false];rw [Qpj _ (by show x.Na.length < _;omega),Qo];show Runs (Option.bind (idx x.Na e.A) _) _;rw [Qbi a0 (by omega),Qo];exact Runs.some ⟨rfl,fun _=>rfl⟩
  obtain ⟨a0,a1,a2,a3,a4⟩:=Qpt he h2;have ha:e.A.toNat < x.Nb.length:=by omega
  have htm:Zx x e∈x.Nb:=by rw [Qfw ha];exact List.getElem_mem ha
  have hcl:=h.len htm;have hs8:=hp.s8;have hu:=h.un _ htm;have e2:Y5 p x e=⟨x.Na,x.Nb.set e.A.toNat (trX p (Zx x e) e),x.Nh⟩:=by unfold Y5;rw [if_neg h2]
  have hnx:=fun c u=>QKs p x a0 ha (by omega) c u
  rw [e2,decide_eq_false h2,cond_false,Qo];show Runs (Option.bind (idx x.Nb e.A) _) _;rw [Qbi a0 ha,Qo,<-Qfw ha];unfold ZO trX;simp only [if_neg h2];generalize Zx x e=t at *
  by_cases h0:e.Kind=0
  · simp only [if_pos h0,decide_eq_true h0,cond_true];rw [Yt,Qo,Qtk p hs _ (by simp),Qo,Yt,Qo,Zz _ (by simp),Qo,Qo];simp only [List.any_cons,List.any_nil,Bool.or_false,Qwe];by_cases hc:t.Nd.length=0
    · simp only [hc,Int.natCast_zero,decide_true,cond_true,ne_eq,not_true_eq_false,if_false,if_true];cases Y6 x e.B with
      | true=>exact Runs.some ⟨rfl,fun hh=>by cases hh⟩
      | false =>
        simp only [Bool.not_false,cond_true,decide_true,Bool.not_true,cond_false];rw [hnx,Qo];exact Runs.some ⟨rfl,fun _=>rfl⟩
    · rw [if_neg hc,decide_eq_false (show ¬ (t.Nd.length:Int)=0 by omega)];exact Runs.some ⟨rfl,fun hh=>by cases hh⟩
  simp only [if_neg h0,decide_eq_false h0,cond_false];by_cases hc:t.Nd.length=0
  · rw [decide_eq_true (show (t.Nd.length:Int)=0 by omega),if_pos hc];exact Runs.some ⟨rfl,fun hh=>by cases hh⟩
  rw [decide_eq_false (show ¬ (t.Nd.length:Int)=0 by omega),cond_false,Yt,Qo,if_neg hc];have hu2:1<=t.Nk/\t.Nk<=t.Nd.length:=by
    rcases hu with ⟨h3,_⟩ | h3
    · rw [h3] at hc;exact absurd rfl hc
    · exact h3
  by_cases h1:e.Kind=1
  · simp only [if_pos h1,decide_eq_true h1,cond_true];obtain ⟨b0,b1⟩:=a3 h1;rw [show (⟨p,x⟩:Nm).Nx.Ni=p.Ni from rfl,Qbi b0 b1,Qo,<-Qib b1];have hr:JM p e∈p.Ni:=by rw [Qib b1];exact List.getElem_mem b1
    generalize JM p e=r at *
    have hr2:=hp.r2 r hr;have hr8:=hp.r8 r hr;have hrn:=hp.rn r hr;rw [Qjv (by omega),Qo,show (0:Int)=((0:Nat):Int) from rfl,XA (show 0 < r.Nc.length by omega),Qo,
      show w64 ((t.Nd.length:Int) - 1)=((t.Nd.length - 1:Nat):Int) by rw [YY (by omega)];omega,XA (show t.Nd.length - 1 < t.Nd.length by omega),Qo,Yt,Qo,
      Qtk p hs _ (by simp;omega),Qo,Yt,Qo,Qwu hrn hsl (by omega) (by omega),Qo,Yt,Qo,Zz _ (by simp),Qo,Qwh (by omega) (by omega),Qeu]
    by_cases h3:r.Nc.head?=t.Nd.getLast?
    · simp only [h3,decide_true,cond_true,Int.natCast_zero,ne_eq,not_true_eq_false,if_false,if_true];cases hb:(r.Nc.drop 1).any (Y6 x) with
      | true=>exact Runs.some ⟨rfl,fun hh=>by cases hh⟩
      | false =>
        cases hl:Zs p x.Na r r.Nc with
        | false=>exact Runs.some ⟨rfl,fun hh=>by cases hh⟩
        | true =>
          simp only [Bool.not_false,cond_true,Int.natCast_zero,not_true_eq_false,if_false,decide_true,Bool.not_true,cond_false];rw [QDz _ _ (by omega) (by simp;omega),Qo,hnx,Qo];exact Runs.some ⟨rfl,fun _=>rfl⟩
    · simp only [h3,decide_false,cond_false,if_false];exact Runs.some ⟨rfl,fun hh=>by cases hh⟩
  simp only [if_neg h1,decide_eq_false h1,cond_false];by_cases h3:e.Kind=3
  · simp only [if_pos h3,decide_eq_true h3,cond_true];rw [if_neg (by omega),if_pos (.inl h3),hnx,Qo,YY (by omega)];by_cases h5:t.Nk < t.Nd.length
    · rw [if_pos h5,decide_eq_true h5];exact Runs.some ⟨rfl,fun _=>rfl⟩
    · rw [if_neg h5,decide_eq_false h5];exact Runs.some ⟨rfl,fun hh=>by cases hh⟩
  simp only [if_neg h3,decide_eq_false h3,cond_false];by_cases h4:e.Kind=4
  · simp only [if_pos h4,decide_eq_true h4,cond_true];rw [Qjv (by omega),Qo,hnx,Qo,Yt,Qo,YY (by omega)];by_cases h5:1 < t.Nk
    · rw [if_pos h5,decide_eq_true h5];exact Runs.some ⟨rfl,fun _=>rfl⟩
    · rw [if_neg h5,decide_eq_false h5];exact Runs.some ⟨rfl,fun hh=>by cases hh⟩
  simp only [if_neg h4,decide_eq_false h4,cond_false];by_cases h5:e.Kind=5
  · simp only [if_pos h5,decide_eq_true h5,cond_true];rw [if_pos (.inr h5),show w64 ((t.Nd.length:Int) - 1)=((t.Nd.length - 1:Nat):Int) by rw [YY (by omega)];omega,Qbg (by omega),Qo,hnx,Qo];by_cases h6:t.Nk < t.Nd.length
    · rw [if_pos h6,decide_eq_true h6];exact Runs.some ⟨rfl,fun _=>rfl⟩
    · rw [if_neg h6,decide_eq_false h6];exact Runs.some ⟨rfl,fun hh=>by cases hh⟩
  simp only [if_neg h5,decide_eq_false h5,cond_false];rw [if_neg (by omega),hnx,Qo,Yt,Qo];by_cases h6:t.Nd.length=1
  · rw [if_pos h6,decide_eq_true (by omega)];exact Runs.some ⟨rfl,fun _=>rfl⟩
  · rw [if_neg h6,decide_eq_false (by omega)];exact Runs.some ⟨rfl,fun hh=>by cases hh⟩
/-! ### The beginning, copies -/
def Z8 (p:Nf):Ng:=⟨List.replicate p.Na.length 0,List.replicate p.Nb.length ⟨[],0⟩,0⟩
theorem Qlp {α:Type} (n:Nat) (z:α) (h:n<=1000):mk (n:Int) z=some (List.replicate n z):=by
 unfold mk;rw [if_pos (by omega),Int.toNat_natCast]
theorem QDh {p:Nf} (h:PlantS p):Qhc p=some (Z8 p):=by
 have h1:=h.sw;have h2:=h.tr;unfold Qhc;rw [Qlp _ _ (by omega),Qo,Qlp _ _ (by omega),Qo];rfl
theorem Qgl {p:Nf}:StateOk p (Z8 p):=by
 refine ⟨by simp [Z8],by simp [Z8],fun n hn=>?_,by rfl,fun t ht=>?_,fun t ht s hs=>?_,fun t ht=>?_,fun i j hi hj _ s hs=>?_,fun t ht k hk=>?_⟩
 ·rw [(List.mem_replicate.1 hn).2];rfl
 ·rw [(List.mem_replicate.1 ht).2];exact .inl ⟨rfl,rfl⟩
 ·rw [(List.mem_replicate.1 ht).2] at hs;cases hs
 ·rw [(List.mem_replicate.1 ht).2];exact List.nodup_nil
 ·simp only [Z8,List.getElem_replicate] at hs;cases hs
 ·rw [(List.mem_replicate.1 ht).2] at hk;simp at hk
theorem QBj (p:Nf) {x:Ng} (h:StateS x):Qhh (some ⟨p,x⟩)=some x:=by
 have h1:=h.sw;have h2:=h.tr;unfold Qhh;rw [Qo];show Option.bind (Option.bind (Qcp x.Na) _) _=_;rw [Qpj _ (by omega),Qo,Qo];simp only [Qo];have hl:=Qhn (step:=Qhg ⟨p,x⟩) (o:=x.Nb) (fun k=>((k:Int),x.Nb.take k)) x.Nb.length (fun k hk=>by
  unfold Qhg;show (bif decide ((k:Int) < (x.Nb.length:Int)) then Option.bind (idx x.Nb (k:Int)) _ else _)=_;rw [XZ hk,cond_true,XA hk,Qo,Qpj _ (by have:=h.ch _ (List.getElem_mem hk);omega),Qo,JS (by simp;omega),Qo,X1 k (by omega)];show some (Sum.inl (_,x.Nb.take k++[x.Nb[k]]))=_;have:=Qti x.Nb id k hk;simp only [List.map_id,id_eq] at this;rw [this]) (by
  unfold Qhg;show (bif decide ((x.Nb.length:Int) < (x.Nb.length:Int)) then _ else _)=_;rw [X2,List.take_length];rfl)
 have hl2:loop (Qhg ⟨p,x⟩) (0,([]:List Nj))=some x.Nb:=hl;rw [hl2];rfl
end Go.Gw

end
section
set_option maxRecDepth 4096
namespace Go.Gw
open Go
attribute [local irreducible] loop
def Z5:Ng:=⟨[],[],0⟩
def YU (p:Nf) (x:Ng) (e:Nl):Int:=if Zp p e=0 then ZO p x e else Zp p e
def evs (p:Nf):Ng->Nat->List Nl->Ng⊕(Nat×Int)
 | x,_,[]=>.inl x
 | x,k,e::l=>if YU p x e=0 then evs p (Y5 p x e) (k+1) l else .inr (k,YU p x e)
theorem Qch {p:Nf} {x:Ng} {k:Nat} {e:Nl} {l:List Nl}:evs p x k (e::l)=if YU p x e=0 then evs p (Y5 p x e) (k+1) l else .inr (k,YU p x e):=rfl
theorem Qkb {p:Nf} (hp:PlantOk p) {x:Ng} (h:StateOk p x) {e:Nl} (he:YU p x e=0):Zp p e=0/\ZO p x e=0/\StateOk p (Y5 p x e):=by
 unfold YU at he;by_cases h1:Zp p e=0
 ·rw [if_pos h1] at he;exact ⟨h1,he,QAo hp h h1 he⟩
 ·rw [if_neg h1] at he;exact absurd he h1
theorem Qkc {p:Nf} (hp:PlantOk p):∀ (l:List Nl) {x y:Ng} {k:Nat},StateOk p x->evs p x k l=.inl y->StateOk p y
 | [],x,y,k,h,he=>by cases he;exact h
 | e::l,x,y,k,h,he=>by
  rw [Qch] at he;by_cases h1:YU p x e=0
  ·rw [if_pos h1] at he;exact Qkc hp l (Qkb hp h h1).2.2 he
  ·rw [if_neg h1] at he;cases he
theorem Qvv {p:Nf}:∀ (l m:List Nl) {x:Ng} {k:Nat},evs p x k (l++m)=match evs p x k l with | .inl y=>evs p y (k+l.length) m | .inr q=>.inr q
 | [],m,x,k=>rfl
 | e::l,m,x,k=>by
  rw [List.cons_append,Qch,Qch];by_cases h1:YU p x e=0
  ·rw [if_pos h1,if_pos h1,Qvv l m,List.length_cons,show k+1+l.length=k+(l.length+1) by omega]
  ·rw [if_neg h1,if_neg h1]
theorem Qvx {p:Nf}:∀ (l:List Nl) {x y:Ng} {k j:Nat},evs p x k l=.inl y->evs p x j l=.inl y
 | [],x,y,k,j,h=>h
 | e::l,x,y,k,j,h=>by
  rw [Qch] at h ⊢;by_cases h1:YU p x e=0
  ·rw [if_pos h1] at h ⊢;exact Qvx l h
  ·rw [if_neg h1] at h;cases h
theorem Qzh {p:Nf} (hS:PlantS p) (hp:PlantOk p) (l:List Nl) (hl:l.length < 1000):∀ (m:List Nl) (k:Nat) (x:Ng),m=l.drop k->k<=l.length->StateOk p x ->
  loop (Qhb l p) (some ⟨p,x⟩,(k:Int))=some (match evs p x k m with | .inl y=>.inr (some ⟨p,y⟩) | .inr (i,c)=>.inl (Z5,(i:Int),c))
 | [],k,x,hm,hk,h=>by
  have:k=l.length:=by
   have:=congrArg List.length hm;simp at this;omega
  subst this;refine JH ?_;unfold Qhb;simp only [X2];rfl
 | e::m,k,x,hm,hk,h=>by
  have hlt:k < l.length:=by
   have:=congrArg List.length hm;simp at this;omega
  rw [List.drop_eq_getElem_cons hlt] at hm;obtain ⟨he,hm⟩:=List.cons.inj hm;have st:Qhb l p (some ⟨p,x⟩,(k:Int))=if YU p x e=0 then some (.inl (some ⟨p,Y5 p x e⟩,((k+1:Nat):Int))) else some (.inr (.inl (Z5,(k:Int),YU p x e))):=by
   unfold Qhb YU;simp only [XZ hlt,cond_true,XA hlt,Qo,<-he,Qvu hS];by_cases h1:Zp p e=0
   ·rw [if_pos h1,decide_eq_true h1,cond_true];obtain ⟨r,hr,h2,h3⟩:=Qut hp h h1;rw [hr,Qo,Qo,h2];by_cases h4:ZO p x e=0
    ·rw [if_pos h4,h3 h4,decide_eq_true h4,X1 k (by omega)];rfl
    ·rw [if_neg h4,decide_eq_false h4];rfl
   ·rw [if_neg h1,decide_eq_false h1,if_neg h1,cond_false,Qo];show (bif !decide (Zp p e=0) then _ else _)=_;rw [decide_eq_false h1];rfl
  rw [Qch];by_cases h1:YU p x e=0
  ·rw [if_pos h1] at st ⊢;rw [Qac st];exact Qzh hS hp l hl m (k+1) _ hm (by omega) (Qkb hp h h1).2.2
  ·rw [if_neg h1] at st ⊢;exact JH st
def Qnd (p:Nf) (l:List Nl):Ng×Int×Int :=
 if (ZB p).2=0 then (if l.length<=200 then (match evs p (Z8 p) 0 l with | .inl y=>(y,0,0) | .inr (i,c)=>(Z5,(i:Int),c)) else (Z5,0,8)) else (Z5,0,(ZB p).2)
theorem Qzi {p:Nf} (hS:PlantS p) (l:List Nl) (hl:l.length < 1000):Qex p l=some (Qnd p l):=by
 unfold Qex Qnd;rw [Qyz hS,Qo,Yt,Qo,Zz _ (by simp),Qo,Qwe];by_cases h1:(ZB p).2=0
 ·have hp:=Qmc h1;simp only [h1,ne_eq,not_true_eq_false,if_false,if_true];by_cases h2:l.length<=200
  ·rw [if_pos h2,decide_eq_true (show (l.length:Int)<=200 by omega)];simp only [cond_true,decide_true,Bool.not_true,cond_false];rw [QDh hS,Qo];have:=Qzh hS hp l hl l 0 (Z8 p) rfl (by omega) Qgl;simp only [Int.natCast_zero] at this;rw [this];cases hE:evs p (Z8 p) 0 l with
   | inl y =>
    simp only [Qo,Xv];rw [QBj p ((Qkc hp l Qgl hE).s hp),Qo]
   | inr q=>rfl
  ·rw [if_neg h2,decide_eq_false (show ¬ (l.length:Int)<=200 by omega)];rfl
 ·simp only [h1,ne_eq,not_false_eq_true,if_true,if_false,decide_false,Bool.not_false,cond_true];rfl
end Go.Gw

end
section
set_option maxRecDepth 4096
namespace Go.Gw
open Go
attribute [local irreducible] loop
end Go.Gw

end
section
set_option maxRecDepth 4096
namespace Go.Gw
open Go
attribute [local irreducible] loop
end Go.Gw

end
section
set_option maxRecDepth 4096
namespace Go.Gw
open Go
attribute [local irreducible] loop
end Go.Gw

end
section
set_option maxRecDepth 4096
namespace Go.Gw
open Go
attribute [local irreducible] loop
theorem Qqa (l:List Int) (v:Int) (hl:l.length < 1000000):Qel l v=some (decide (v∈l)):=by
 unfold Qel;rw [Zb l (fun x=>decide (x=v)) (fun _ _=>true),Qo]
 ·rcases Js (p:=fun x=>decide (x=v)) (res:=fun _ _=>true) l 0 with ⟨k1,k2⟩ | ⟨j,x,k1,k2,k3⟩
  ·rw [k1,<-Quq,k2];rfl
  ·rw [k1,<-Quq,k3];rfl
 ·intro k hk;unfold Qoz;rw [XZ hk,XA hk,X1 k (by omega)];rfl
 ·unfold Qoz;rw [X2];rfl
theorem QNi (l:List ByteArray) (s:ByteArray) (hl:l.length < 1000000):Qmt l s=some (Qab (fun x=>decide (x=s)) l):=by
 unfold Qmt Qab;rw [Zb l (fun x=>decide (x=s)) (fun k _=>(k:Int)),Qo,Qdu]
 ·intro k hk;unfold Qsh;rw [XZ hk,XA hk,X1 k (by omega)];rfl
 ·unfold Qsh;rw [X2];rfl
theorem Qxo (l:List ByteArray) (s:ByteArray):(l.any fun x=>decide (x=s))=Y3 l s:=by
 unfold Y3;congr 1;funext x;exact decide_eq_decide.2 eq_comm
theorem Qxp {α:Type} (f:α->ByteArray) (l:List α) (s:ByteArray):(l.any fun x=>decide (f x=s))=Y3 (l.map f) s:=by
 rw [<-Qxo,List.any_map];rfl
theorem Qzb (l:List ByteArray) (hl:l.length < 1000):Qhz l=some (match XK (Zk l) l.length with | some i=>((i:Int),Zk l i) | none=>(0,0)):=by
 unfold Qhz;have key:loop (Qhy l) 0=_:=Qat (step:=Qhy l) (fun k=>(k:Int)) l.length (Zk l) (fun i e=>((i:Int),e)) () (fun k hk _=>by
  have hs:Zk l k=ZA l[k] (l.take k):=Z9 _ _ _ hk;rw [hs];unfold Qhy ZA;rw [XZ hk,cond_true,XA hk,Qo,Qox,Qo];cases Qad l[k]
  ·rfl
  ·simp only [Bool.not_true,cond_false,Qo,cond_true];rw [Qbg (by omega),Qo,QNi _ _ (by simp;omega),Qo,Qqe,Qxo,X1 k (by omega)];cases Y3 (l.take k) l[k]<;>rfl) (fun _=>by
  unfold Qhy;rw [X2];rfl)
 rw [key,Qo];cases XK (Zk l) l.length<;>rfl
theorem Qtb {α ρ:Type} {step:Int->Option (Int⊕(ρ⊕Unit))} (xs:List α) (n:Nat) (hn:n<=xs.length) (p:α->Bool) (c:ρ)
  (hs:∀ k (hk:k < xs.length),k < n->step (k:Int)=(bif p xs[k] then some (.inr (.inl c)) else some (.inl ((k+1:Nat):Int))))
  (he:step (n:Int)=some (.inr (.inr ()))):loop step 0=some (if (xs.take n).any p=true then .inl c else .inr ()):=by
 have hlen:(xs.take n).length=n:=by simp;omega
 rw [Zb (xs.take n) p (fun _ _=>c) (fun k hk=>by
  rw [hlen] at hk;rw [hs k (by omega) hk];simp only [List.getElem_take]) (by rw [hlen];exact he)]
 rcases Js (p:=p) (res:=fun _ _=>c) (xs.take n) 0 with ⟨k1,k2⟩ | ⟨j,x,k1,k2,k3⟩
 ·rw [k1,k2];rfl
 ·rw [k1,k3];rfl
theorem QOt {p:Nf} (h:PlantS p) (k:Nat) (hk:k < p.Na.length):Qna p k=some (ZE p k):=by
 have h1:=h.sw;have h2:=h.se;have hs:ZE p k=swE p k p.Na[k]:=Z9 _ _ _ hk;have l0:loop (Qmy p.Na[k] (k:Int) p) 0=some (if (p.Na.take k).any (fun o=>decide (o.Name=p.Na[k].Name))=true then .inl 5 else .inr ()) :=
  Qtb p.Na k (by omega) _ _ (fun j hj hjk=>by
   unfold Qmy;rw [XZ hjk,cond_true,XA hj,Qo,X1 j (by omega)]) (by
   unfold Qmy;rw [X2];rfl)
 have l1:loop (Qmz p.Na[k] (k:Int) p) 0=some (if (p.Na.take k).any (fun o=>decide (o.Nq=p.Na[k].Nq))=true then .inl 26 else .inr ()) :=
  Qtb p.Na k (by omega) _ _ (fun j hj hjk=>by
   unfold Qmz;rw [XZ hjk,cond_true,XA hj,Qo,X1 j (by omega)]) (by
   unfold Qmz;rw [X2];rfl)
 rw [hs];unfold Qna swE swX ZA;rw [XA hk,Qo,Qox,Qo,l0,l1,Qxp (fun o:Ns=>o.Name),show Jh p.Na[k].Nq 0 (w64 ((p.Nc.length:Int) - 1))=some (Yx p p.Na[k].Nq) by rw [Qcc,YY (by omega)];rfl];cases Qad p.Na[k].Name
 ·rfl
 ·cases Y3 ((p.Na.take k).map (·.Name)) p.Na[k].Name
  ·cases Yx p p.Na[k].Nq
   ·rfl
   ·cases (p.Na.take k).any (fun o=>decide (o.Nq=p.Na[k].Nq))<;>rfl
  ·rfl
theorem Qza (n:Int):Jh n 0 1=some (Y4 n):=by
 rw [Qcc];congr 1;unfold Y4;rw [Bool.eq_iff_iff];simp only [Bool.and_eq_true,Bool.or_eq_true,decide_eq_true_eq];omega
theorem QOq {p:Nf} (h:PlantS p) (k:Nat) (hk:k < p.Ni.length):Qmx p k=some (ZC p k):=by
 have h1:=h.ro;have h2:=h.se;have h3:=h.sw;obtain ⟨_,hr,hn⟩:=h.rn _ (List.getElem_mem hk);have hs:ZC p k=rtE p k p.Ni[k]:=Z9 _ _ _ hk;have l0:loop (Qmu p.Ni[k] p (k:Int)) 0=some (if (p.Ni.take k).any (fun o=>decide (o.Name=p.Ni[k].Name))=true then .inl 5 else .inr ()) :=
  Qtb p.Ni k (by omega) _ _ (fun j hj hjk=>by
   unfold Qmu;rw [XZ hjk,cond_true,XA hj,Qo,X1 j (by omega)]) (by
   unfold Qmu;rw [X2];rfl)
 rw [hs];unfold Qmx rtE;rw [XA hk,Qo,Qox,Qo,l0,Qxp (fun o:Nn=>o.Name)];generalize p.Ni[k]=r at hr hn ⊢;have l1:loop (Qmv r p) 0=some (match XK (Jr p r) r.Nc.length with | some i=>.inl (Jr p r i) | none=>.inr ()) :=
  Qat (fun k=>(k:Int)) r.Nc.length (Jr p r) (fun _ e=>e) () (fun k hk _=>by
   have hs:Jr p r k=rsE p r k r.Nc[k]:=Z9 _ _ _ hk;rw [hs];unfold Qmv rsE;rw [XZ hk,cond_true,XA hk,Qo,show Jh r.Nc[k] 0 (w64 ((p.Nc.length:Int) - 1))=some (Yx p r.Nc[k]) by rw [Qcc,YY (by omega)];rfl,Qo,Qbg (by omega),Qo,Qo,Qqa _ _ (by simp;omega),Qo,X1 k (by omega)];cases Yx p r.Nc[k]<;>cases decide (r.Nc[k]∈r.Nc.take k)<;>rfl) (fun _=>by
   unfold Qmv;rw [X2];rfl)
 have l2:r.Nr.length=p.Na.length->loop (Qmw r p) 0=some (Yi (JI r) (fun _ _=>(2:Int)) 0 (r.Nr.zip p.Na)):=fun he =>
  Zb (r.Nr.zip p.Na) _ _ (fun k hk=>by
   rw [Qol he] at hk;unfold Qmw;rw [XZ hk,cond_true,XA (show k < p.Na.length by omega),Qo,Qqa _ _ (by omega),Qo,XA hk,X1 k (by omega)];simp only [List.getElem_zip,JI,Qo,Qza];cases decide (p.Na[k].Nq∈r.Nc)<;>rfl) (by
   rw [Qol he];unfold Qmw;rw [X2];rfl)
 unfold ZA;cases Qad r.Name
 ·rfl
 ·cases Y3 ((p.Ni.take k).map (·.Name)) r.Name
  ·simp only [Bool.not_true,cond_false,cond_true,Qo,Xv,if_true,Bool.false_eq_true,if_false];unfold rtX;by_cases h4:r.Nc.length < 2
   ·rw [if_pos h4,decide_eq_true (show (r.Nc.length:Int) < 2 by omega)];rfl
   rw [if_neg h4,decide_eq_false (show ¬ (r.Nc.length:Int) < 2 by omega)];by_cases h5:p.Nc.length < r.Nc.length
   ·rw [if_pos h5,decide_eq_true (show (p.Nc.length:Int) < r.Nc.length by omega)];rfl
   rw [if_neg h5,decide_eq_false (show ¬ (p.Nc.length:Int) < r.Nc.length by omega),l1];simp only [cond_false,Qo];cases XK (Jr p r) r.Nc.length with
   | some i=>rfl
   | none =>
    simp only [Xv];by_cases h6:r.Nr.length=p.Na.length
    ·rw [if_pos h6,decide_eq_true (show (r.Nr.length:Int)=p.Na.length by omega),Bool.not_true,cond_false,l2 h6,Qo];rcases Js (p:=JI r) (res:=fun _ _=>(2:Int)) (r.Nr.zip p.Na) 0 with ⟨k1,k2⟩ | ⟨j,x,k1,k2,k3⟩
     ·rw [k1,k2];rfl
     ·rw [k1,k3];rfl
    ·rw [if_neg h6,decide_eq_false (show ¬ (r.Nr.length:Int)=p.Na.length by omega)];rfl
  ·rfl
theorem QOm {p:Nf} (h:PlantS p):Qmi p=some (ZB p):=by
  have h3:=h.sw;have h4:=h.ro;have l0:loop (Qmg p) 0=some (match XK (ZE p) p.Na.length with | some i=>.inl (Np.mk 3 i,ZE p i) | none=>.inr ()) :=
    Qat (fun k=>(k:Int)) p.Na.length (ZE p) (fun i e=>(Np.mk 3 i,e)) () (fun k hk _=>by
      unfold Qmg;rw [XZ hk,cond_true,QOt h k hk,Qo,X1 k (by omega)];by_cases h1:ZE p k=0
      · rw [if_pos h1,decide_eq_true h1];rfl
      · rw [if_neg h1,decide_eq_false h1];rfl) (fun _=>by
      unfold Qmg;rw [X2];rfl)
  have l1:loop (Qmh p) 0=some (match XK (ZC p) p.Ni.length with | some i=>.inl (Np.mk 4 i,ZC p i) | none=>.inr ()) :=
    Qat (fun k=>(k:Int)) p.Ni.length (ZC p) (fun i e=>(Np.mk 4 i,e)) () (fun k hk _=>by
      unfold Qmh;rw [XZ hk,cond_true,QOq h k hk,Qo,X1 k (by omega)];by_cases h1:ZC p k=0
      · rw [if_pos h1,decide_eq_true h1];rfl
      · rw [if_neg h1,decide_eq_false h1];rfl) (fun _=>by
      unfold Qmh;rw [X2];rfl)
  unfold Qmi ZB;by_cases h1:p.Nc.length=0\/p.Nb.length=0
  · rw [if_pos h1, show (decide ((p.Nc.length : Int) = 0) || decide ((p.Nb.length : Int) = 0)) = true by
      simp only [Bool.or_eq_true,decide_eq_true_eq];omega]
    rfl
  rw [if_neg h1,decide_eq_false (show ¬ (p.Nc.length:Int)=0 by omega),decide_eq_false (show ¬ (p.Nb.length:Int)=0 by omega)];simp only [Bool.or_self,cond_false];by_cases h2:8 < p.Nc.length\/3 < p.Nb.length\/4 < p.Na.length\/10 < p.Ni.length
  · rw [if_pos h2, show (((decide (8 < (p.Nc.length : Int)) || decide (3 < (p.Nb.length : Int))) || decide (4 < (p.Na.length : Int))) || decide (10 < (p.Ni.length : Int))) = true by
      simp only [Bool.or_eq_true,decide_eq_true_eq];omega]
    rfl
  rw [if_neg h2, show (((decide (8 < (p.Nc.length : Int)) || decide (3 < (p.Nb.length : Int))) || decide (4 < (p.Na.length : Int))) || decide (10 < (p.Ni.length : Int))) = false by
      rw [decide_eq_false (by omega),decide_eq_false (by omega),decide_eq_false (by omega),decide_eq_false (by omega)];rfl]
  rw [cond_false,Qzb _ h.se,Qzb _ h.tr,l0,l1];have hz:∀ {f:Nat->Int} {n i:Nat},XK f n=some i->f i≠0:=fun hf=>(Qaq hf).2.1
  cases h3:XK (Zk p.Nc) p.Nc.length with
  | some i=>simp [hz h3]
  | none =>
    simp only [Qo,decide_true,Bool.not_true,cond_false];cases h4:XK (Zk p.Nb) p.Nb.length with
    | some i=>simp [hz h4]
    | none =>
      simp only [decide_true,Bool.not_true,cond_false];cases h5:XK (ZE p) p.Na.length with
      | some i=>rfl
      | none =>
        simp only [Xv];cases h6:XK (ZC p) p.Ni.length with
        | some i=>rfl
        | none=>rfl
theorem QOo {p:Nf} (h:PlantS p):Qmm p=some (ZB p).2:=by
 unfold Qmm;rw [QOm h];rfl
/-! ### Copies -/
theorem Qdi (l:List Int) (h:l.length < 1000000):J8 l=some l:=by
 unfold J8;rw [JS (by simp;omega)];rfl
theorem Qvl (l:List ByteArray) (h:l.length < 1000000):Qgj l=some l:=by
 unfold Qgj;rw [JS (by simp;omega)];rfl
theorem QAw {α:Type} (l:List α) (k:Nat) (hk:k < l.length):l.take k++[l[k]]=l.take (k+1):=by
 have:=Qti l id k hk;simp
theorem Qvj {p:Nf} (h:PlantS p):Qfi p=some p:=by
 have h1:=h.se;have h2:=h.tr;have h3:=h.sw;have h4:=h.ro;have hl:=Qhn (step:=Qhu p) (o:=p.Ni) (fun k=>((k:Int),p.Ni.take k)) p.Ni.length (fun k hk=>by
  obtain ⟨_,hr,hn⟩:=h.rn _ (List.getElem_mem hk);unfold Qhu;simp only [XZ hk,cond_true,XA hk,Qo];rw [Qdi _ (by omega),Qo,Qdi _ (by omega),Qo,JS (by simp;omega),Qo,X1 k (by omega),QAw _ _ hk]) (by
  unfold Qhu;simp only [X2,List.take_length];rfl)
 have hl2:loop (Qhu p) (0,([]:List Nn))=some p.Ni:=hl;unfold Qfi;rw [Qvl _ (by omega),Qo,Qvl _ (by omega),Qo,JS (by simp;omega),Qo,Qo];simp only [List.nil_append];rw [hl2];rfl
theorem Qvk {x:Ng} (h:StateS x):Qfj x=some x:=by
 have h1:=h.sw;have h2:=h.tr;have hl:=Qhn (step:=Qhv x) (o:=x.Nb) (fun k=>((k:Int),x.Nb.take k)) x.Nb.length (fun k hk=>by
  unfold Qhv;simp only [XZ hk,cond_true,XA hk,Qo];rw [Qdi _ (by have:=h.ch _ (List.getElem_mem hk);omega),Qo,JS (by simp;omega),Qo,X1 k (by omega)];show some (Sum.inl (_,x.Nb.take k++[x.Nb[k]]))=_;rw [QAw _ _ hk]) (by
  unfold Qhv;simp only [X2,List.take_length];rfl)
 have hl2:loop (Qhv x) (0,([]:List Nj))=some x.Nb:=hl;unfold Qfj;rw [Qdi _ (by omega),Qo,Qo];simp only;rw [hl2];rfl
theorem Qvi (l:List Nl) (h:l.length < 1000000):Qht l=some l:=by
 unfold Qht;rw [JS (by simp;omega)];rfl
/-! ### Equal ones -/
theorem Qwp (a b:List Int) (ha:a.length < 1000000):Qgk a b=some (decide (a=b)):=by
 unfold Qgk;by_cases hl:a.length=b.length
 ·rw [decide_eq_true (by omega),Bool.not_true,cond_false,Zb (a.zip b) (fun x=>!decide (x.1=x.2)) (fun _ _=>false),Qo,Qps a b hl]
  ·intro k hk;rw [Qok hl] at hk;unfold Qpa;rw [XZ hk,cond_true,XA hk,Qo,XA (show k < b.length by omega),Qo,X1 k (by omega)];simp only [List.getElem_zip]
  ·rw [Qok hl];unfold Qpa;rw [X2];rfl
 ·rw [decide_eq_false (by omega)];simp only [Bool.not_false,cond_true];rw [decide_eq_false];intro e;exact hl (by rw [e])
theorem QQj {x:Ng} (h:StateS x) (y:Ng):Qdq x y=some (decide (x=y)):=by
  have h1:=h.sw;have h2:=h.tr;cases x with
  | mk sw tr c =>
  cases y with
  | mk sw2 tr2 c2 =>
  simp only at h1 h2;unfold Qdq;simp only [Qwp sw sw2 (by omega),Qo,Ng.mk.injEq];by_cases e1:sw=sw2
  · by_cases e2:c=c2
    · by_cases hl:tr.length=tr2.length
      · rw [decide_eq_true e1,decide_eq_true e2,decide_eq_true (show (tr.length:Int)=tr2.length by omega)];simp only [Bool.not_true,Bool.or_self,cond_false];have key:loop (Qmo ⟨sw,tr,c⟩ ⟨sw2,tr2,c2⟩) 0=_:=Zb (tr.zip tr2) (fun x=>!decide (x.1=x.2)) (fun _ _=>false) (fun k hk=>by
          rw [Qok hl] at hk;unfold Qmo;simp only [XZ hk,cond_true,XA hk,Qo,XA (show k < tr2.length by omega)];rw [Qwp _ _ (by have:(tr[k]).Nd.length < 1000:=h.ch _ (List.getElem_mem hk);omega),Qo,X1 k (by omega)];simp only [List.getElem_zip];cases h3:tr[k] with
          | mk ch un =>
          cases h4:tr2[k]'(by omega) with
          | mk ch2 un2 =>
          simp only [Nj.mk.injEq];by_cases e3:ch=ch2
          · by_cases e4:un=un2
            · simp [e3,e4]
            · simp [e3,e4]
          · simp [e3]) (by
          rw [Qok hl];unfold Qmo;simp only [X2];rfl)
        rw [key,Qo,Qps tr tr2 hl];simp [e1,e2]
      · rw [decide_eq_false (show ¬ (tr.length:Int)=tr2.length by omega)];have:tr≠tr2:=fun e=>hl (by rw [e])
        simp [this]
    · simp [e2]
  · simp [e1]
/-! ### The limits -/
theorem QGq (p:Nf):Qgz p=some true/\PlantS p/\(p.Nc.length<=4\/8 < p.Nc.length)\/Qgz p=some false:=by
 unfold Qgz;cases hb:(((((decide (4 < (p.Nc.length:Int))&&decide ((p.Nc.length:Int)<=8))||decide (10 < (p.Nc.length:Int)))||decide (5 < (p.Nb.length:Int)))||decide (6 < (p.Na.length:Int)))||decide (12 < (p.Ni.length:Int))) with
 | true=>exact .inr rfl
 | false =>
  rw [cond_false];simp only [Bool.or_eq_false_iff,Bool.and_eq_false_iff,decide_eq_false_iff_not] at hb;have h1:p.Nc.length < 1000:=by omega
  have h2:p.Nb.length < 1000:=by omega
  have h3:p.Na.length < 1000:=by omega
  have h4:p.Ni.length < 1000:=by omega
  have l0:loop (Qkm p) 0=some (Yi (fun s:ByteArray=>decide (20 < (s.size:Int))) (fun _ _=>false) 0 p.Nc):=Zb p.Nc _ _ (fun k hk=>by
   unfold Qkm;rw [XZ hk,cond_true,XA hk,Qo,X1 k (by omega)]) (by unfold Qkm;rw [X2];rfl)
  have l1:loop (Qkn p) 0=some (Yi (fun s:ByteArray=>decide (20 < (s.size:Int))) (fun _ _=>false) 0 p.Nb):=Zb p.Nb _ _ (fun k hk=>by
   unfold Qkn;rw [XZ hk,cond_true,XA hk,Qo,X1 k (by omega)]) (by unfold Qkn;rw [X2];rfl)
  have l2:loop (Qko p) 0=some (Yi (fun s:Ns=>decide (20 < (s.Name.size:Int))) (fun _ _=>false) 0 p.Na):=Zb p.Na _ _ (fun k hk=>by
   unfold Qko;rw [XZ hk,cond_true,XA hk,Qo,X1 k (by omega)]) (by unfold Qko;rw [X2];rfl)
  have l3:loop (Qkp p) 0=some (Yi (fun r:Nn=>decide (20 < (r.Name.size:Int))||(decide (10 < (r.Nc.length:Int))||decide (6 < (r.Nr.length:Int)))) (fun _ _=>false) 0 p.Ni):=Zb p.Ni _ _ (fun k hk=>by
   unfold Qkp;simp only [XZ hk,cond_true,XA hk,Qo,X1 k (show k < 4611686018427387904 by omega)];cases decide (20 < (p.Ni[k].Name.size:Int))<;>cases decide (10 < (p.Ni[k].Nc.length:Int))<;>cases decide (6 < (p.Ni[k].Nr.length:Int))<;>rfl) (by unfold Qkp;rw [X2];rfl)
  rw [l0,l1,l2,l3];simp only [Qo];rcases Js (p:=fun s:ByteArray=>decide (20 < (s.size:Int))) (res:=fun _ _=>false) p.Nc 0 with ⟨k1,k2⟩ | ⟨j,x,k1,k2,k3⟩
  ·rw [k1];rcases Js (p:=fun s:ByteArray=>decide (20 < (s.size:Int))) (res:=fun _ _=>false) p.Nb 0 with ⟨m1,m2⟩ | ⟨j,x,m1,m2,m3⟩
   ·rw [m1];rcases Js (p:=fun s:Ns=>decide (20 < (s.Name.size:Int))) (res:=fun _ _=>false) p.Na 0 with ⟨n1,n2⟩ | ⟨j,x,n1,n2,n3⟩
    ·rw [n1];rcases Js (p:=fun r:Nn=>decide (20 < (r.Name.size:Int))||(decide (10 < (r.Nc.length:Int))||decide (6 < (r.Nr.length:Int)))) (res:=fun _ _=>false) p.Ni 0 with ⟨o1,o2⟩ | ⟨j,x,o1,o2,o3⟩
     ·rw [o1];rw [List.any_eq_false] at k2 m2 n2 o2;refine .inl ⟨rfl,⟨h1,h2,h3,h4,fun s hs=>?_,fun s hs=>?_,fun s hs=>?_,fun r hr=>?_⟩,by omega⟩
      ·have:=k2 s hs;simp at this;omega
      ·have:=m2 s hs;simp at this;omega
      ·have:=n2 s hs;simp at this;omega
      ·have:=o2 r hr;simp at this;omega
     ·rw [o1];exact .inr rfl
    ·rw [n1];exact .inr rfl
   ·rw [m1];exact .inr rfl
  ·rw [k1];exact .inr rfl
end Go.Gw

end
section
set_option maxRecDepth 4096
namespace Go.Gw
open Go
attribute [local irreducible] loop
theorem Qsd {x:Ng} (h:StateS x) (s:Int):Qfk x s=some (XW x s):=by
 have h1:=h.tr;unfold Qfk XW Qab;rw [Zb x.Nb (fun t=>decide (s∈t.Nd)) (fun k _=>(k:Int)),Qo,Qdu]
 ·intro k hk;unfold Qsf;rw [XZ hk,cond_true,XA hk,Qo,Qqa _ _ (by have:=h.ch _ (List.getElem_mem hk);omega),Qo,X1 k (by omega)]
 ·unfold Qsf;rw [X2];rfl
theorem QOr {p:Nf} (h:PlantS p) (n:Int):Qmp p n=some (bif Yx p n then 0 else 6):=by
 have:=h.se;unfold Qmp;rw [Qcc,YY (by omega),Qo];show (bif !(Yx p n) then _ else _)=_;cases Yx p n<;>rfl
theorem QOu {p:Nf} (h:PlantS p) (n:Int):Qms p n=some (bif J3 p n then 0 else 6):=by
 have:=h.tr;unfold Qms;rw [Qcc,YY (by omega),Qo];show (bif !(J3 p n) then _ else _)=_;cases J3 p n<;>rfl
theorem QOn {p:Nf} (h:PlantS p) (e:Nl):Qml p e=some (Zp p e):=by
  have h1:=h.sw;have h2:=h.ro;unfold Qml Zp;rw [Qcc,Qo];by_cases hk:0<=e.Kind/\e.Kind<=6
  · rw [if_neg (by omega),show (decide (0<=e.Kind)&&decide (e.Kind<=6))=true by simp [hk.1,hk.2]];simp only [Bool.not_true,cond_false];by_cases h2:e.Kind=2
    · rw [if_pos h2,decide_eq_true h2,cond_true,Qcc,YY (by omega),Qo,Qza];show (bif !(Qdx p e.A) then _ else _)=_;cases Qdx p e.A<;>cases Y4 e.B<;>rfl
    · rw [if_neg h2,decide_eq_false h2,cond_false,QOu h,Qo,QOr h,Qo,Qcc,YY (by omega),Qo];cases J3 p e.A
      · rfl
      simp only [cond_true,decide_true,Bool.not_true,cond_false];by_cases h0:e.Kind=0
      · rw [if_pos h0,decide_eq_true h0];rfl
      · rw [if_neg h0,decide_eq_false h0,cond_false];by_cases h1:e.Kind=1
        · rw [if_pos h1,decide_eq_true h1,cond_true];show (bif !(Qdr p e.B) then _ else _)=_;cases Qdr p e.B<;>rfl
        · rw [if_neg h1,decide_eq_false h1,cond_false];by_cases h3:e.B=0
          · rw [if_pos h3,decide_eq_true h3];rfl
          · rw [if_neg h3,decide_eq_false h3];rfl
  · rw [if_pos hk, show (decide (0 <= e.Kind) && decide (e.Kind <= 6)) = false by
      rw [Bool.and_eq_false_iff,decide_eq_false_iff_not,decide_eq_false_iff_not];omega]
    rfl
/-! ### Which section leads to which -/
/-! ### Which states are right -/
end Go.Gw

end
