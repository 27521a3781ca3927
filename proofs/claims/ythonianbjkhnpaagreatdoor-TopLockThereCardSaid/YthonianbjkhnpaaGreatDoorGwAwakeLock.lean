/- Laws of the walk. Condition: each theorem says its own. -/
import Derived.Test.YthonianbjkhnpaaGreatDoorGwTopA
import Derived.Test.YthonianbjkhnpaaGreatDoorGwLib25
set_option linter.unusedVariables false
set_option linter.unusedSimpArgs false
set_option linter.unusedSectionVars false
open List renaming getElem_mem→Ea,getElem?_eq_getElem→Eb,getElem_of_mem→Ec,range→Ed,mem_take_iff_getElem→Eg,any_eq_false→Ei,getElem_zip→Ej,length_drop→Ek,mem_singleton→En,length_append→Eo,getElem_drop→Ep,take_length→Eu,length_zip→Ew,mem_of_mem_drop→Ex,nil_append→Ey,drop_eq_getElem_cons→Ez,Nodup→EA,pairwise_iff_getElem→EB,mem_or_eq_of_mem_set→EC,getLast?_eq_getElem?→ED,getElem_append_right→EE,head?_eq_getElem?→EG,mem_range→EH,mem_iff_getElem→EJ,mem_of_mem_take→EK,any_cons→EM,getElem_zipIdx→EO
open Bool renaming not_true→Ee,and_eq_true→El,not_false→Em,or_eq_true→Eq_,and_false→Er,not_eq_true'→Es,true_and→Et,eq_iff_iff→EF,and_eq_false_iff→EI,or_eq_false_iff→EL,or_false→EN
open Go.Gw.Runs renaming some→Ef
open Option renaming bind→Eh,some→EP
open Int renaming natCast_zero→Ev
section
set_option maxRecDepth 100000
namespace Go.Gw
open Go
end Go.Gw

end
section
set_option linter.unusedSectionVars false
namespace Go.Gw
section
variable {α β γ σ ρ:Type}
def Ym (p:α->Bool) (res:Nat->α->ρ):Nat->List α->ρ⊕Unit
 | _,[]=>.inr ()
 | k,x::xs=>if p x then .inl (res k x) else Ym p res (k+1) xs
theorem Zf {step:Int->Option (Int⊕(ρ⊕Unit))} (xs:List α) (p:α->Bool) (res:Nat->α->ρ)
  (hs:∀ k (hk:k < xs.length),step (k:Int)=(bif p xs[k] then some (.inr (.inl (res k xs[k]))) else some (.inl ((k+1:Nat):Int))))
  (he:step (xs.length:Int)=some (.inr (.inr ()))):loop step 0=some (Ym p res 0 xs):=by
 have key:∀ j k,j+k=xs.length->loop step (k:Int)=some (Ym p res k (xs.drop k)):=by
  intro j
  induction j with
  | zero =>
   intro k hk;obtain rfl:k=xs.length:=by omega
   rw [List.drop_length];exact Jv he
  | succ j ih =>
   intro k hk;have hlt:k < xs.length:=by omega
   rw [Ez hlt];have:=hs k hlt;cases hp:p xs[k] with
   | true=>simp_all [Jv,Ym,if_true]
   | false=>grind [JP,Ym]
 have:=key xs.length 0 (by omega);trivial

def fld (f:Nat->γ->α->γ):Nat->γ->List α->γ
 | _,a,[]=>a
 | k,a,x::xs=>fld f (k+1) (f k a x) xs
theorem Qzt {step:σ->Option (σ⊕β)} (xs:List α) (f:Nat->γ->α->γ) (S:γ->Nat->σ) (o:γ->β) (Inv:γ->Nat->Prop) (a0:γ) (h0:Inv a0 0)
  (hs:∀ k (hk:k < xs.length) a,Inv a k->step (S a k)=some (.inl (S (f k a xs[k]) (k+1)))/\Inv (f k a xs[k]) (k+1))
  (he:∀ a,Inv a xs.length->step (S a xs.length)=some (.inr (o a))):loop step (S a0 0)=some (o (fld f 0 a0 xs))/\Inv (fld f 0 a0 xs) xs.length:=by
 have key:∀ j k a,j+k=xs.length->Inv a k->loop step (S a k)=some (o (fld f k a (xs.drop k)))/\Inv (fld f k a (xs.drop k)) xs.length:=by
  intro j
  induction j with
  | zero =>
   intro k a hk hI;obtain rfl:k=xs.length:=by omega
   rw [List.drop_length];exact ⟨Jv (he a hI),hI⟩
  | succ j ih =>
   intro k a hk hI;have hlt:k < xs.length:=by omega
   rw [Ez hlt];have:=hs k hlt a hI;rw [JP this.1];exact ih (k+1) _ (by omega) this.2
 have:=key xs.length 0 a0 (by omega) h0;trivial

theorem Xj (k:Nat) (h:k < 4611686018427387904):w64 ((k:Int)+1)=((k+1:Nat):Int):=by grind [YD]
theorem XA {k n:Nat} (h:k < n):decide ((k:Int) < (n:Int))=true:=by simp;omega
theorem XE (n:Nat):decide ((n:Int) < (n:Int))=false:=by simp
end
end Go.Gw

end
section
set_option maxRecDepth 4096
namespace Go.Gw
open Go
def ZX:List Int->Int
 | []=>0
 | x::xs=>if x=0 then ZX xs else x
theorem ZL (l:List Int) (hl:l.length < 1073741824):ZY l=some (ZX l):=by
  unfold ZY;rw [Zf l (fun x=>!decide (x=0)) (fun _ x=>x)]
  · have key : ∀ (l : List Int) k, (Xp (Ym (fun x => !decide (x = 0)) (fun _ x => x) k l) fun (_ : Unit) => some 0) = some (ZX l) := by
      intro l
      induction l with
      | nil=>intro k;rfl
      | cons x xs ih =>
        intro k;by_cases h:x=0
        · simp [Ym,ZX,h];exact ih _
        · simp [Ym,ZX,h,Xp]
    simpa using key l 0
  · intro k hk;unfold Qrz;rw [XA hk,Xh hk,Xj k (by omega)];rfl
  · unfold Qrz;rw [XE];rfl
theorem Yt (b:Bool) (e:Int):Yf b e=some (bif b then 0 else e):=by cases b<;>rfl
theorem Qve (n lo hi:Int):JO n lo hi=some (decide (lo<=n)&&decide (n<=hi)):=rfl
theorem QKz (n:Int):Qsa n=some (decide (0<=n)&&decide (n<=6)):=rfl
end Go.Gw

end
section
set_option maxRecDepth 4096
namespace Go.Gw
open Go
def JM (n:Int):Bool:=decide (0<=n)&&decide (n<=250)
end Go.Gw

end
section
set_option maxRecDepth 4096
namespace Go.Gw
open Go
attribute [local irreducible] loop
end Go.Gw

end
section
set_option maxRecDepth 4096
namespace Go.Gw
open Go
attribute [local irreducible] loop
end Go.Gw

end
section
set_option maxRecDepth 4096
namespace Go.Gw
open Go
attribute [local irreducible] loop
theorem Qgz {α:Type} (p:α->Bool):∀ (l:List α) (k:Nat),(Xp (β:=Int) (Ym p (fun k _=>(k:Int)) k l) fun (_:Unit)=>some (-1))=some (match Ym p (fun k _=>(k:Int)) k l with | .inl i=>i | .inr _=>-1)
 | l,k=>by cases Ym p (fun k _=>(k:Int)) k l<;>rfl
theorem Qkc {α:Type} (p:α->Bool):∀ (l:List α) (k:Nat),decide (0<=(match Ym p (fun k _=>(k:Int)) k l with | .inl i=>i | .inr _=>(-1:Int)))=l.any p
 | [],k=>by simp [Ym]
 | x::xs,k=>by
  by_cases h:p x=true
  ·simp [Ym,h]
  ·simp only [Ym,h,EM];have:=Qkc p xs (k+1);simpa [h] using this
theorem Jl {α ρ:Type} {p:α->Bool} {res:Nat->α->ρ}:∀ (l:List α) (k:Nat),(Ym p res k l=.inr ()/\l.any p=false)\/∃ j x,Ym p res k l=.inl (res j x)/\p x=true/\l.any p=true
 | [],k=>.inl ⟨rfl,rfl⟩
 | x::xs,k=>by
  by_cases h:p x=true
  ·exact .inr ⟨k,x,by simp [Ym,h],h,by simp [h]⟩
  ·rcases Jl xs (k+1) (p:=p) (res:=res) with ⟨h1,h2⟩ | ⟨j,y,h1,h2,h3⟩
   ·exact .inl ⟨by simp [Ym,h,h1],by simp [h,h2]⟩
   ·exact .inr ⟨j,y,by simp [Ym,h,h1],h2,by simp [h3]⟩
def Xz (f:Nat->Int) (n:Nat):Option Nat:=(Ed n).find? fun i=>decide (f i≠0)
theorem Qlq (f:Nat->Int) (n:Nat):(Xz f n=none/\∀ j,j < n->f j=0)\/∃ i,Xz f n=some i/\i < n/\f i≠0/\∀ j,j < i->f j=0:=by
 cases h:Xz f n with
 | none =>
  refine .inl ⟨rfl,fun j hj=>?_⟩;have:=List.find?_eq_none.1 h j (EH.2 hj);simpa using this
 | some i =>
  right;obtain ⟨h1,h2,h3⟩:=List.find?_range_eq_some.1 h;exact ⟨i,rfl,EH.1 h2,by simpa using h1,fun j hj=>by have:=h3 j hj;simpa using this⟩
theorem Qan {σ ρ μ:Type} {step:σ->Option (σ⊕(ρ⊕μ))} (S:Nat->σ) (n:Nat) (f:Nat->Int) (res:Nat->Int->ρ) (o:μ)
  (hs:∀ k,k < n->(∀ j,j < k->f j=0)->step (S k)=if f k=0 then some (.inl (S (k+1))) else some (.inr (.inl (res k (f k))))) (he:(∀ j,j < n->f j=0)->step (S n)=some (.inr (.inr o))) :
  loop step (S 0)=some (match Xz f n with | some i=>.inl (res i (f i)) | none=>.inr o):=by
 rcases Qlq f n with ⟨h1,h2⟩ | ⟨i,h1,h2,h3,h4⟩
 ·rw [h1];exact Qgi S n (fun k hk=>by rw [hs k hk fun j hj=>h2 j (by omega),if_pos (h2 k hk)]) (he h2)
 ·rw [h1];exact Qgi S i (fun k hk=>by rw [hs k (by omega) fun j hj=>h4 j (by omega),if_pos (h4 k hk)]) (by rw [hs i h2 h4,if_neg h3])
/-! ### Names -/
def Qho (q:Int×Nat):Bool:=(!(((decide (97<=q.1))&&(decide (q.1<=122)))||((decide (65<=q.1))&&(decide (q.1<=90)))))&&((decide ((q.2:Int)=0))||((!decide (q.1=45))&&((decide (q.1 < 48))||(decide (57 < q.1)))))
def bi (s:ByteArray):List Int:=bl s
theorem Qle (s:ByteArray):(bi s).length=s.size:=ZV s
theorem Qyj {s:ByteArray} {k:Nat} (h:k < (bi s).length):idx (α:=Int) (bl s) (k:Int)=some (bi s)[k]:=Xh (xs:=bi s) h
def Qav (s:ByteArray):Bool:=decide (1<=s.size)&&(decide (s.size<=12)&&!((bi s).zipIdx.any Qho))
theorem QCr (s:ByteArray):s=ByteArray.mk #[]↔s.size=0:=by
 constructor
 ·intro h;subst h;rfl
 ·intro h;cases s with
  | mk d =>
   congr 1;exact Array.eq_empty_of_size_eq_zero h
theorem Qqc (s:ByteArray):Qfo s=some (Qav s):=by
  unfold Qfo Qav;have hlen:(bi s).zipIdx.length=s.size:=by rw [List.length_zipIdx,Qle]
  by_cases h:1<=s.size/\s.size<=12
  · have : (decide ((s.size : Int) < 1) || decide (12 < (s.size : Int))) = false := by
      rw [decide_eq_false (by omega),decide_eq_false (by omega)];rfl
    rw [this,cond_false,Zf (bi s).zipIdx Qho (fun _ _=>false),Qj]
    · rcases Jl (p:=Qho) (res:=fun _ _=>false) (bi s).zipIdx 0 with ⟨k1,k2⟩ | ⟨j,x,k1,k2,k3⟩
      · rw [k1,k2];simp [h,Xp]
      · rw [k1,k3];simp [Xp]
    · intro k hk;rw [hlen] at hk;unfold Qqg;rw [XA hk,cond_true,Qyj (show k < (bi s).length by rw [Qle];exact hk),Qj,Xj k (by omega)];simp only [EO,Nat.zero_add];rfl
    · rw [hlen];unfold Qqg;rw [XE];rfl
  · have : (decide ((s.size : Int) < 1) || decide (12 < (s.size : Int))) = true := by
      by_cases h1:s.size < 1
      · rw [decide_eq_true (by omega)];rfl
      · rw [decide_eq_true (p:=12 < (s.size:Int)) (by omega)];simp
    rw [this,cond_true];congr 1;by_cases h1:1<=s.size
    · rw [decide_eq_false (p:=s.size<=12) (by omega)];simp
    · rw [decide_eq_false h1];rfl
theorem Qro (s:ByteArray) (hs:s.size<=1000):Qgc s=some (Qav s):=by
 unfold Qgc Qav;have hlen:(bi s).zipIdx.length=s.size:=by rw [List.length_zipIdx,Qle]
 have ht:tob s=some (bl s):=by unfold tob;rw [if_pos (by omega)]
 rw [ht,Qj,Zf (bi s).zipIdx Qho (fun _ _=>false),Qj]
 ·rcases Jl (p:=Qho) (res:=fun _ _=>false) (bi s).zipIdx 0 with ⟨k1,k2⟩ | ⟨j,x,k1,k2,k3⟩
  ·rw [k1,k2];simp only [Xp,Em,Bool.and_true,EP.injEq];by_cases h0:s.size=0
   ·rw [decide_eq_true ((QCr s).2 h0),decide_eq_false (show ¬ 1<=s.size by omega)];rfl
   ·rw [decide_eq_false (fun e=>h0 ((QCr s).1 e)),decide_eq_true (show 1<=s.size by omega)];simp only [Em,Et];by_cases h1:s.size<=12
    ·rw [decide_eq_true h1,decide_eq_true (by omega)]
    ·rw [decide_eq_false h1,decide_eq_false (by omega)]
  ·rw [k1,k3];simp [Xp]
 ·intro k hk;rw [hlen] at hk;have hk2:k < (bl s).length:=by rw [ZV];exact hk
  unfold Qsc;rw [XA hk2,cond_true,Qyj (show k < (bi s).length by rw [Qle];exact hk),Qj,Xj k (by omega)];simp only [EO,Nat.zero_add];rfl
 ·rw [hlen,show (s.size:Int)=((bl s).length:Int) by rw [ZV]];unfold Qsc;rw [XE];rfl
theorem Qec (n lo hi:Int):JL n lo hi=some (decide (lo<=n)&&decide (n<=hi)):=rfl
theorem Qyd (a b:Int):ZX [a,b]=if a≠0 then a else b:=by
 unfold ZX ZX ZX;by_cases h:a=0<;>by_cases h2:b=0<;>simp [h,h2]
theorem Qfx (a b c:Int):ZX [a,b,c]=if a≠0 then a else if b≠0 then b else c:=by
 unfold ZX ZX ZX ZX;by_cases h:a=0<;>by_cases h2:b=0<;>by_cases h3:c=0<;>simp [h,h2,h3]
theorem Jg {α:Type} (l:List α) (f:α->Int) (k:Nat) (hk:k < l.length):(l[k]?.map f).getD 0=f l[k]:=by rw [Eb hk];rfl
theorem Qex {α β:Type} (l:List α) (f:α->β) (k:Nat) (hk:k < l.length):(l.take k).map f++[f l[k]]=(l.take (k+1)).map f:=by
 rw [List.take_add_one,Eb hk,List.map_append];rfl
theorem Qpr {α β:Type} {a:List α} {b:List β} (hl:a.length=b.length):(a.zip b).length=a.length:=by simp [hl]
theorem Qee {α:Type} {xs:List α} {k:Nat} (h:k<=xs.length):cut xs 0 (k:Int)=some (xs.take k):=by
 unfold cut;rw [if_pos (by omega),Int.toNat_natCast];rfl
theorem Qvz {α:Type} [DecidableEq α] (l:List α) (v:α):(l.any fun x=>decide (v=x))=decide (v∈l):=by
 rw [EF];simp
theorem Qwa {α:Type} [DecidableEq α] (l:List α) (v:α):(l.any fun x=>decide (x=v))=decide (v∈l):=by
 rw [EF];simp
def Qbj {α:Type} (p:α->Bool) (l:List α):Int:=match Ym p (fun k _=>(k:Int)) 0 l with | .inl i=>i | .inr _=>(-1:Int)
theorem Qrn {α:Type} (p:α->Bool) (l:List α):decide (0<=Qbj p l)=l.any p:=Qkc p l 0
theorem Qys (l:List Int) (v:Int) (hl:l.length < 1000000):Qka l v=some (Qbj (fun x=>decide (v=x)) l):=by
 unfold Qka Qbj;rw [Zf l (fun x=>decide (v=x)) (fun k _=>(k:Int)),Qj,Qgz]
 ·intro k hk;unfold Qub;rw [XA hk,Xh hk,Xj k (by omega)];rfl
 ·unfold Qub;rw [XE];rfl
theorem Qed (l:List Int) (v:Int) (hl:l.length < 1000000):Qbo l v=some (decide (v∈l)):=by
 unfold Qbo;rw [Qys l v hl,Qj,Qrn,Qvz]
end Go.Gw

end
section
set_option maxRecDepth 4096
namespace Go.Gw
open Go
attribute [local irreducible] loop
def ZZ (s:ByteArray) (others:List ByteArray):Int:=bif Qav s then (bif YQ others s then 5 else 0) else 4
def Zo (l:List ByteArray) (k:Nat):Int:=(l[k]?.map fun s=>ZZ s (l.take k)).getD 0
def XQ (p:Nf) (n:Int):Bool:=decide (0<=n)&&decide (n<=(p.Ng.length:Int) - 1)
def swX (p:Nf) (k:Nat) (s:Nt):Int:=bif XQ p s.Nn then (bif (p.Nb.take k).any (fun o=>decide (o.Nn=s.Nn)) then 26 else 0) else 6
def swE (p:Nf) (k:Nat) (s:Nt):Int:=if ZZ s.Name ((p.Nb.take k).map (·.Name))=0 then swX p k s else ZZ s.Name ((p.Nb.take k).map (·.Name))
def Z3 (p:Nf) (k:Nat):Int:=(p.Nb[k]?.map (swE p k)).getD 0
def rsE (p:Nf) (r:Ns) (k:Nat) (s:Int):Int:=bif XQ p s then (bif decide (s∈r.Ng.take k) then 26 else 0) else 6
def JS (p:Nf) (r:Ns) (k:Nat):Int:=(r.Ng[k]?.map (rsE p r k)).getD 0
def Qaw (r:Ns) (q:Int×Nt):Bool:=bif decide (q.2.Nn∈r.Ng) then !(decide (q.1=0)||decide (q.1=1)) else !decide (q.1=-1)
def rtX (p:Nf) (r:Ns):Int :=
 if r.Ng.length < 2 then 10 else if p.Ng.length < r.Ng.length then 8 else
 match Xz (JS p r) r.Ng.length with
 | some i=>JS p r i
 | none=>if r.Nu.length=p.Nb.length then (bif (r.Nu.zip p.Nb).any (Qaw r) then 2 else 0) else 10
def rtE (p:Nf) (k:Nat) (r:Ns):Int:=if ZZ r.Name ((p.Ni.take k).map (·.Name))=0 then rtX p r else ZZ r.Name ((p.Ni.take k).map (·.Name))
def Z1 (p:Nf) (k:Nat):Int:=(p.Ni[k]?.map (rtE p k)).getD 0
def Jy (p:Nf):Nq×Int :=
 if p.Ng.length=0\/p.Na.length=0 then (Nq.mk 0 0,10) else if 8 < p.Ng.length\/3 < p.Na.length\/4 < p.Nb.length\/10 < p.Ni.length then (Nq.mk 0 0,8) else
 match Xz (Zo p.Ng) p.Ng.length with
 | some i=>(Nq.mk 1 i,Zo p.Ng i)
 | none=>match Xz (Zo p.Na) p.Na.length with
  | some i=>(Nq.mk 2 i,Zo p.Na i)
  | none=>match Xz (Z3 p) p.Nb.length with
   | some i=>(Nq.mk 3 i,Z3 p i)
   | none=>match Xz (Z1 p) p.Ni.length with
    | some i=>(Nq.mk 4 i,Z1 p i)
    | none=>(Nq.mk 0 0,0)
structure PlantS (p:Nf):Prop where
 se:p.Ng.length < 1000
 tr:p.Na.length < 1000
 sw:p.Nb.length < 1000
 ro:p.Ni.length < 1000
 sn:∀ s∈p.Ng,s.size<=1000
 tn:∀ s∈p.Na,s.size<=1000
 wn:∀ s∈p.Nb,s.Name.size<=1000
 rn:∀ r∈p.Ni,r.Name.size<=1000/\r.Ng.length < 1000/\r.Nu.length < 1000
theorem Qrl {α:Type} (l:List α) (f:α->ByteArray) (k:Nat) (hk:k < l.length) (h:YQ ((l.take k).map f) (f l[k])=false):ZM ((l.take k).map f) (f l[k])=(l.take (k+1)).map f:=by
 unfold ZM;rw [h,if_neg (by simp),Qex l f k hk]
theorem Qsq (s:ByteArray) (others:List ByteArray):ZX [bif Qav s then 0 else 4,bif !(YQ others s) then 0 else 5]=ZZ s others:=by
 unfold ZZ;cases Qav s<;>cases YQ others s<;>rfl
theorem Qsr {s:ByteArray} {others:List ByteArray} (h:ZZ s others=0):YQ others s=false:=by
 unfold ZZ at h;cases h1:YQ others s with
 | false=>rfl
 | true=>rw [h1] at h;cases h2:Qav s<;>rw [h2] at h<;>cases h
theorem QHg {n m:Int} (h:n≠m):decide (n=m)=false:=decide_eq_false h
theorem QAa (l:List ByteArray) (mark:Int) (hl:l.length < 1000) (hn:∀ s∈l,s.size<=1000):Qix mark l=some (match Xz (Zo l) l.length with | some i=>(Nq.mk mark i,Zo l i) | none=>(Nq.mk 0 0,0)):=by
 unfold Qix;have key:loop (Qiw l mark) (0,[])=some (match Xz (Zo l) l.length with | some i=>.inl (Nq.mk mark i,Zo l i) | none=>.inr ()):=by
  refine Qan (step:=Qiw l mark) (fun k=>((k:Int),(l.take k).map id)) l.length (Zo l) (fun i e=>(Nq.mk mark i,e)) () (fun k hk _=>?_) (fun _=>?_)
  ·have hs:Zo l k=ZZ l[k] (l.take k):=Jg _ _ _ hk;have hi:=fun h=>Qrl l id k hk h
   simp only [List.map_id,id_eq] at hi ⊢;rw [hs];unfold Qiw;simp only [XA hk,cond_true,Xh hk,Qj];rw [show Qse l[k]=some l[k] from rfl,Qj,Qro _ (hn _ (Ea hk)),Qj];simp only [Yt,Qj];rw [ZL _ (by simp),Qj,Qsq];by_cases h:ZZ l[k] (l.take k)=0
   ·rw [if_pos h,h,hi (Qsr h),Xj k (by omega)];rfl
   ·rw [if_neg h,QHg h];rfl
  ·unfold Qiw;simp only [XE];rfl
 rw [key,Qj];cases Xz (Zo l) l.length<;>rfl
theorem QGs (l:List Nt) (s:Nt) (hl:l.length < 1000):Qot l s=some (l.any fun o=>decide (o.Nn=s.Nn)):=by
 unfold Qot Qtv;rw [Zf l (fun o=>decide (o.Nn=s.Nn)) (fun k _=>(k:Int)),Qj,Qgz,Qj,Qkc]
 ·intro k hk;unfold Qtu;rw [XA hk,Xh hk,Xj k (by omega)];rfl
 ·unfold Qtu;rw [XE];rfl
theorem QCn (p:Nf) (hp:p.Ng.length < 1000) (n:Int):JO n 0 (w64 ((p.Ng.length:Int) - 1))=some (XQ p n):=by
 rw [Qve,YD (by omega)];rfl
theorem QUz {p:Nf} (h:PlantS p) (k:Nat) (hk:k < p.Nb.length):Qnc p k=some (swX p k p.Nb[k]):=by
 have h1:=h.sw;unfold Qnc swX;rw [Xh hk,Qj,Qee (by omega),Qj,QGs _ _ (by simp;omega),Qj,QCn p h.se,Qj,Yt,Qj,Yt,Qj,ZL _ (by simp),Qj];cases XQ p p.Nb[k].Nn<;>cases (p.Nb.take k).any (fun o=>decide (o.Nn=p.Nb[k].Nn))<;>rfl
theorem QVc {p:Nf} (h:PlantS p):Qmv 3 p.Nb p=some (match Xz (Z3 p) p.Nb.length with | some i=>(Nq.mk 3 i,Z3 p i) | none=>(Nq.mk 0 0,0)):=by
 have hl:=h.sw;unfold Qmv;have key:loop (Qiv p p.Nb 3) (0,[])=some (match Xz (Z3 p) p.Nb.length with | some i=>.inl (Nq.mk 3 i,Z3 p i) | none=>.inr ()):=by
  refine Qan (step:=Qiv p p.Nb 3) (fun k=>((k:Int),(p.Nb.take k).map (·.Name))) p.Nb.length (Z3 p) (fun i e=>(Nq.mk 3 i,e)) () (fun k hk _=>?_) (fun _=>?_)
  ·have hs:Z3 p k=swE p k p.Nb[k]:=Jg _ _ _ hk;have hi:=fun h=>Qrl p.Nb (·.Name) k hk h
   rw [hs];unfold Qiv swE;simp only [XA hk,cond_true,Xh hk,Qj];rw [show Qru p.Nb[k]=some p.Nb[k].Name from rfl,Qj,Qro _ (h.wn _ (Ea hk)),Qj];simp only [Yt,Qj];rw [ZL _ (by simp),Qj,Qsq,show Qmh (k:Int) p=some (swX p k p.Nb[k]) by unfold Qmh;rw [QUz h k hk];rfl];by_cases h1:ZZ p.Nb[k].Name ((p.Nb.take k).map (·.Name))=0
   ·simp only [h1,hi (Qsr h1),if_true,decide_true,Et,cond_true,Qj,Xj k (show k < 4611686018427387904 by omega)];by_cases h2:swX p k p.Nb[k]=0
    ·simp [h2]
    ·simp [h2]
   ·simp only [h1,if_false,decide_false,Bool.false_and,cond_false,Qj,Em,cond_true]
  ·unfold Qiv;simp only [XE];rfl
 rw [key,Qj];cases Xz (Z3 p) p.Nb.length<;>rfl
theorem QSp {p:Nf} (h:PlantS p) (r:Ns) (hr:r.Ng.length < 1000):loop (Qmx r p) 0=some (match Xz (JS p r) r.Ng.length with | some i=>.inl (JS p r i) | none=>.inr ()) :=
 Qan (fun k=>(k:Int)) r.Ng.length (JS p r) (fun _ e=>e) () (fun k hk _=>by
  have hs:JS p r k=rsE p r k r.Ng[k]:=Jg _ _ _ hk;rw [hs];unfold Qmx rsE;rw [XA hk,cond_true,Xh hk,Qj,Qee (by omega),Qj,QCn p h.se,Qj,Yt,Qj,Qed _ _ (by simp;omega),Qj,Yt,Qj,ZL _ (by simp),Qj,Xj k (by omega)];cases XQ p r.Ng[k]<;>cases decide (r.Ng[k]∈r.Ng.take k)<;>rfl) (fun _=>by
  unfold Qmx;rw [XE];rfl)
theorem QSo {p:Nf} (r:Ns) (hr:r.Ng.length < 1000) (hn:r.Nu.length < 1000) (he:r.Nu.length=p.Nb.length):loop (Qmy r p) 0=some (Ym (Qaw r) (fun _ _=>(2:Int)) 0 (r.Nu.zip p.Nb)) :=
 Zf (r.Nu.zip p.Nb) _ _ (fun k hk=>by
  rw [Qpr he] at hk;unfold Qmy;rw [XA hk,cond_true,Xh hk,Qj,Xh (show k < p.Nb.length by omega),Qj,Qed _ _ (by omega),Qj,Xj k (by omega)];simp only [Ej,Qaw];rw [show Qgd r.Nu[k]=some (decide (r.Nu[k]=0)||decide (r.Nu[k]=1)) from rfl];cases decide (p.Nb[k].Nn∈r.Ng)<;>rfl) (by
  rw [Qpr he];unfold Qmy;rw [XE];rfl)
theorem QSs {p:Nf} (h:PlantS p) (k:Nat) (hk:k < p.Ni.length):Qmz p k=some (rtX p p.Ni[k]):=by
 obtain ⟨_,hr,hn⟩:=h.rn _ (Ea hk);have h1:=h.se;have h2:=h.sw;unfold Qmz rtX;rw [Xh hk,Qj,Yt,Qj,Yt,Qj,ZL _ (by simp),Qj];generalize p.Ni[k]=r at hr hn ⊢;by_cases h3:r.Ng.length < 2
 ·rw [if_pos h3,decide_eq_false (show ¬ (2<=(r.Ng.length:Int)) by omega)];rfl
 rw [if_neg h3,decide_eq_true (show 2<=(r.Ng.length:Int) by omega)];by_cases h4:p.Ng.length < r.Ng.length
 ·rw [if_pos h4,decide_eq_false (show ¬ ((r.Ng.length:Int)<=p.Ng.length) by omega)];rfl
 rw [if_neg h4,decide_eq_true (show (r.Ng.length:Int)<=p.Ng.length by omega),QSp h r hr];simp only [ZX,cond_true,if_true,decide_true,Ee,cond_false,Qj];cases Xz (JS p r) r.Ng.length with
 | some i=>rfl
 | none =>
  simp only [Xp];by_cases h5:r.Nu.length=p.Nb.length
  ·rw [if_pos h5,decide_eq_true (by omega),Ee,cond_false,QSo r hr hn h5,Qj];rcases Jl (p:=Qaw r) (res:=fun _ _=>(2:Int)) (r.Nu.zip p.Nb) 0 with ⟨k1,k2⟩ | ⟨j,x,k1,k2,k3⟩
   ·rw [k1,k2];rfl
   ·rw [k1,k3];rfl
  ·rw [if_neg h5,decide_eq_false (by omega)];rfl
theorem QTf {p:Nf} (h:PlantS p):Qmu 4 p.Ni p=some (match Xz (Z1 p) p.Ni.length with | some i=>(Nq.mk 4 i,Z1 p i) | none=>(Nq.mk 0 0,0)):=by
 have hl:=h.ro;unfold Qmu;have key:loop (Qiu p p.Ni 4) (0,[])=some (match Xz (Z1 p) p.Ni.length with | some i=>.inl (Nq.mk 4 i,Z1 p i) | none=>.inr ()):=by
  refine Qan (step:=Qiu p p.Ni 4) (fun k=>((k:Int),(p.Ni.take k).map (·.Name))) p.Ni.length (Z1 p) (fun i e=>(Nq.mk 4 i,e)) () (fun k hk _=>?_) (fun _=>?_)
  ·have hs:Z1 p k=rtE p k p.Ni[k]:=Jg _ _ _ hk;have hi:=fun h=>Qrl p.Ni (·.Name) k hk h
   rw [hs];unfold Qiu rtE;simp only [XA hk,cond_true,Xh hk,Qj];rw [show Qrw p.Ni[k]=some p.Ni[k].Name from rfl,Qj,Qro _ (h.rn _ (Ea hk)).1,Qj];simp only [Yt,Qj];rw [ZL _ (by simp),Qj,Qsq,show Qmi (k:Int) p=some (rtX p p.Ni[k]) by unfold Qmi;rw [QSs h k hk];rfl];by_cases h1:ZZ p.Ni[k].Name ((p.Ni.take k).map (·.Name))=0
   ·simp only [h1,hi (Qsr h1),if_true,decide_true,Et,cond_true,Qj,Xj k (show k < 4611686018427387904 by omega)];by_cases h2:rtX p p.Ni[k]=0
    ·simp [h2]
    ·simp [h2]
   ·simp only [h1,if_false,decide_false,Bool.false_and,cond_false,Qj,Em,cond_true]
  ·unfold Qiu;simp only [XE];rfl
 rw [key,Qj];cases Xz (Z1 p) p.Ni.length<;>rfl
theorem QGt {p:Nf} (h:PlantS p):Qmj p=some (Jy p):=by
  unfold Qmj Jy;rw [Yt,Qj,Yt,Qj,ZL _ (by simp),Qj];by_cases h1:p.Ng.length=0\/p.Na.length=0
  · rw [if_pos h1, show (decide (0 < (p.Ng.length : Int)) && decide (0 < (p.Na.length : Int))) = false by
      rcases h1 with h1 | h1
      · rw [decide_eq_false (show ¬ (0 < (p.Ng.length:Int)) by omega)];rfl
      · rw [decide_eq_false (show ¬ (0 < (p.Na.length:Int)) by omega),Er]]
    rfl
  rw [if_neg h1,decide_eq_true (show 0 < (p.Ng.length:Int) by omega),decide_eq_true (show 0 < (p.Na.length:Int) by omega)];by_cases h2:8 < p.Ng.length\/3 < p.Na.length\/4 < p.Nb.length\/10 < p.Ni.length
  · rw [if_pos h2, show (((decide (8 < (p.Ng.length : Int)) || decide (3 < (p.Na.length : Int))) || decide (4 < (p.Nb.length : Int))) || decide (10 < (p.Ni.length : Int))) = true by
      simp only [Eq_,decide_eq_true_eq];omega]
    rfl
  rw [if_neg h2, show (((decide (8 < (p.Ng.length : Int)) || decide (3 < (p.Na.length : Int))) || decide (4 < (p.Nb.length : Int))) || decide (10 < (p.Ni.length : Int))) = false by
      rw [decide_eq_false (by omega),decide_eq_false (by omega),decide_eq_false (by omega),decide_eq_false (by omega)];rfl]
  unfold Qrs Qrt Qrv Qrx;rw [QAa _ _ h.se h.sn,QAa _ _ h.tr h.tn,QVc h,QTf h];have hz:∀ {f:Nat->Int} {n i:Nat},Xz f n=some i->f i≠0:=fun {f n i} hf=>by
    rcases Qlq f n with ⟨k1,_⟩ | ⟨j,k1,_,k3,_⟩
    · rw [k1] at hf;cases hf
    · rw [k1] at hf;cases hf;exact k3
  simp only [Et,Em,cond_true,ZX,if_true,decide_true,Ee,cond_false,Qj];cases h3:Xz (Zo p.Ng) p.Ng.length with
  | some i=>simp [hz h3]
  | none =>
    simp only [decide_true,Ee,cond_false];cases h4:Xz (Zo p.Na) p.Na.length with
    | some i=>simp [hz h4]
    | none =>
      simp only [decide_true,Ee,cond_false];cases h5:Xz (Z3 p) p.Nb.length with
      | some i=>simp [hz h5]
      | none =>
        simp only [decide_true,Ee,cond_false];cases h6:Xz (Z1 p) p.Ni.length with
        | some i=>simp [hz h6]
        | none=>simp
theorem QRj {p:Nf} (h:PlantS p):Qgh p=some (Jy p).2:=by
 unfold Qgh;rw [QGt h];rfl
end Go.Gw

end
section
set_option maxRecDepth 4096
namespace Go.Gw
open Go
attribute [local irreducible] loop
theorem Qqs {α:Type} {xs:List α} (h:1<=xs.length):cut xs 1 (xs.length:Int)=some (xs.drop 1):=by
 unfold cut;rw [if_pos (by omega),Int.toNat_natCast,Eu];rfl
structure StateS (x:Nd):Prop where
 sw:x.Nb.length < 1000
 tr:x.Na.length < 1000
 ch:∀ t∈x.Na,t.Nc.length < 1000
def X0 (x:Nd) (s:Int):Int:=Qbj (fun t:Nl=>decide (s∈t.Nc)) x.Na
def YI (x:Nd) (s:Int):Bool:=x.Na.any fun t=>decide (s∈t.Nc)
theorem Qyg (x:Nd) (s:Int):decide (0<=X0 x s)=YI x s:=Qrn _ _
theorem Qyh (p:Nf) {x:Nd} (h:StateS x) (s:Int):Qin (some ⟨p,x⟩) s=some (X0 x s):=by
 have h1:=h.tr;unfold Qin Qtw X0 Qbj;rw [Qj];show (Eh (Eh (loop (Qow s x.Na) 0) _) _)=_;rw [Zf x.Na (fun t=>decide (s∈t.Nc)) (fun k _=>(k:Int)),Qj,Qgz,Qj]
 ·intro k hk;unfold Qow Qsg;rw [XA hk,cond_true,Xh hk,Qj,Qed _ _ (by have:=h.ch _ (Ea hk);omega),Qj,Qj,Xj k (by omega)]
 ·unfold Qow;rw [XE];rfl
theorem Qoz (p:Nf) {x:Nd} (h:StateS x) (l:List Int) (hl:l.length < 1000):Qej (some ⟨p,x⟩) l=some (l.any (YI x)):=by
 unfold Qej Qtt Qua;rw [Zf l (YI x) (fun k _=>(k:Int)),Qj,Qgz,Qj,Qkc]
 ·rfl
 ·intro k hk;unfold Qtz Qsj;rw [XA hk,cond_true,Xh hk,Qj,Qyh p h,Qj,Qj,Qyg,Xj k (by omega)]
 ·unfold Qtz;rw [XE];rfl
def Qeg (secs:List Int) (q:Nt×(Int×Int)):Bool:=decide (q.1.Nn∈secs)&&!decide (q.2.1=q.2.2)
def YV (p:Nf) (sw:List Int) (r:Ns) (secs:List Int):Bool:=!((p.Nb.zip (r.Nu.zip sw)).any (Qeg secs))
theorem QUf (α:Type) (p:α->Bool) (l:List α):(Xp (Ym p (fun _ _=>false) 0 l) fun (_:Unit)=>some true)=some (!(l.any p)):=by
 rcases Jl (p:=p) (res:=fun _ _=>false) l 0 with ⟨k1,k2⟩ | ⟨j,x,k1,k2,k3⟩
 ·rw [k1,k2];rfl
 ·rw [k1,k3];rfl
theorem Qzc {p:Nf} {x:Nd} {r:Ns} {secs:List Int} (h1:r.Nu.length=p.Nb.length) (h2:x.Nb.length=p.Nb.length) (h3:p.Nb.length < 1000) (hs:secs.length < 1000):Qio (some ⟨p,x⟩) r secs=some (YV p x.Nb r secs):=by
 unfold Qio YV;have hlen:(p.Nb.zip (r.Nu.zip x.Nb)).length=p.Nb.length:=by simp [h1,h2]
 rw [Qj,Zf (p.Nb.zip (r.Nu.zip x.Nb)) (Qeg secs) (fun _ _=>false),Qj,QUf]
 ·intro k hk;rw [hlen] at hk;unfold Qsi;rw [XA hk,cond_true,Xh hk,Qj,Qed _ _ (by omega),Qj,Xj k (by omega)];simp only [Qj];rw [Xh (show k < r.Nu.length by omega),Xh (show k < x.Nb.length by omega)];simp only [Ej,Qeg,Qj];cases decide (p.Nb[k].Nn∈secs)<;>rfl
 ·rw [hlen];unfold Qsi;rw [XE];rfl
theorem QGv (l:List Nl) (h:l.length < 1000000):Qor l=some l:=by
 unfold Qor;rw [Zm (by simp;omega)];rfl
theorem Qqq (l:List Int) (h:l.length < 1000000):Qdk l=some l:=by
 unfold Qdk;rw [Zm (by simp;omega)];rfl
theorem Qid {α:Type} {xs:List α} {i:Int} (h0:0<=i) (h:i.toNat < xs.length):idx xs i=some xs[i.toNat]:=by
 unfold idx;rw [if_pos h0,Eb h]
theorem QOf (p:Nf) (x:Nd) {a:Int} (h0:0<=a) (hk:a.toNat < x.Na.length) (hl:x.Na.length < 1000) (c:List Int) (u:Int):Qcb (some ⟨p,x⟩) a c u=some (some ⟨p,⟨x.Nb,x.Na.set a.toNat ⟨c,u⟩,x.Nh⟩⟩):=by
 unfold Qcb;rw [Qj,QGv _ (by show x.Na.length < _;omega),Qj];show Eh (idx x.Na a) _=_;rw [Qid h0 hk,Qj]
theorem QKf (n:Nat) (h:n < 1000000):Qov (n:Int)=some []:=by
 unfold Qov;rw [decide_eq_false (show ¬ (n:Int) < 0 by omega)];simp only [cond_false,Qj,Ev,Int.sub_zero];rw [show w64 (0:Int)=0 from rfl,Int.sub_zero,YD (by omega)];by_cases h0:0 < (n:Int)
 ·rw [decide_eq_true h0,cond_true];unfold mkZ
  first
  | (rw [if_pos (by omega),Qj];unfold cut;rw [if_pos (by simp)];rfl)
  | skip
 ·rw [decide_eq_false h0];rfl
theorem QHa (a b:List Int) (ha:a.length < 1000) (hb:b.length < 1000):Qos [a,b]=some (a++b):=by
 have f0:Qgx [a,b] (0,0)=some (.inl ((a.length:Int),1)):=by
  unfold Qgx;simp only [show decide ((0:Int) < (([a,b]:List (List Int)).length:Int))=true from rfl,cond_true,show idx [a,b] (0:Int)=some a from rfl,Qj,Int.zero_add];rw [YD (by omega),decide_eq_false (by omega)];rfl
 have f1:Qgx [a,b] ((a.length:Int),1)=some (.inl (((a.length+b.length:Nat):Int),2)):=by
  unfold Qgx;simp only [show decide ((1:Int) < (([a,b]:List (List Int)).length:Int))=true from rfl,cond_true,show idx [a,b] (1:Int)=some b from rfl,Qj];rw [YD (by omega),decide_eq_false (by omega),show ((a.length:Int)+(b.length:Int))=((a.length+b.length:Nat):Int) by omega];rfl
 have f2:Qgx [a,b] (((a.length+b.length:Nat):Int),2)=some (.inr ((a.length+b.length:Nat):Int)):=rfl;have g0:Qgy [a,b] ([],0)=some (.inl (a,1)):=by
  unfold Qgy;simp only [show decide ((0:Int) < (([a,b]:List (List Int)).length:Int))=true from rfl,cond_true,show idx [a,b] (0:Int)=some a from rfl,Qj];rw [Zm (by simp;omega)];rfl
 have g1:Qgy [a,b] (a,1)=some (.inl (a++b,2)):=by
  unfold Qgy;simp only [show decide ((1:Int) < (([a,b]:List (List Int)).length:Int))=true from rfl,cond_true,show idx [a,b] (1:Int)=some b from rfl,Qj];rw [Zm (by omega)];rfl
 have g2:Qgy [a,b] (a++b,2)=some (.inr (a++b)):=rfl;unfold Qos;rw [JP f0,JP f1,Jv f2,Qj,QKf _ (by omega),Qj,JP g0,JP g1,Jv g2,Qj]
/-! ### Events -/
def Zt (p:Nf) (n:Int):Bool:=decide (0<=n)&&decide (n<=(p.Na.length:Int) - 1)
def Qhd (p:Nf) (n:Int):Bool:=decide (0<=n)&&decide (n<=(p.Nb.length:Int) - 1)
def Qgs (p:Nf) (n:Int):Bool:=decide (0<=n)&&decide (n<=(p.Ni.length:Int) - 1)
def Yb (n:Int):Bool:=decide (n=0)||decide (n=1)
def ZB (p:Nf) (e:Nj):Int :=
 if ¬ (0<=e.Kind/\e.Kind<=6) then 15 else if e.Kind=2 then (bif Qhd p e.A then (bif Yb e.B then 0 else 2) else 6) else
 bif Zt p e.A then (if e.Kind=0 then (bif XQ p e.B then 0 else 6) else if e.Kind=1 then (bif Qgs p e.B then 0 else 6) else if e.B=0 then 0 else 3) else 6
theorem Qme {n:Int} {k:Nat} (hk:k < 1000):JO n 0 (w64 ((k:Int) - 1))=some (decide (0<=n)&&decide (n<=(k:Int) - 1)):=by
 rw [Qve,YD (by omega)]
theorem Qoq {p:Nf} (h:PlantS p) (n:Int):Qek p n=some (bif XQ p n then 0 else 6):=by
 unfold Qek;rw [Qme h.se,Qj,Yt];rfl
theorem QDx {p:Nf} (h:PlantS p) (n:Int):Qiz p n=some (bif Zt p n then 0 else 6):=by
 unfold Qiz;rw [Qme h.tr,Qj,Yt];rfl
theorem QIf {p:Nf} (h:PlantS p) (e:Nj):Qik p e=some (ZB p e):=by
  unfold Qik ZB;rw [QKz,Qj];by_cases hk:0<=e.Kind/\e.Kind<=6
  · rw [if_neg (by omega),show (decide (0<=e.Kind)&&decide (e.Kind<=6))=true by simp [hk.1,hk.2]];simp only [Ee,cond_false];by_cases h2:e.Kind=2
    · rw [if_pos h2,decide_eq_true h2,cond_true,Qme h.sw,Qj,Yt,Qj,show Qgd e.B=some (Yb e.B) from rfl,Qj,Yt,Qj,ZL _ (by simp),Qj];show some (ZX [bif Qhd p e.A then 0 else 6,_])=_;cases Qhd p e.A<;>cases Yb e.B<;>rfl
    · rw [if_neg h2,decide_eq_false h2,cond_false,Yt,Qj,Qoq h,Qj,Qme h.ro,Qj,Yt,Qj,QDx h];show (Eh (bif decide (e.Kind=0) then some (bif XQ p e.B then 0 else 6) else bif decide (e.Kind=1) then some (bif Qgs p e.B then 0 else 6) else some _) _)=_;by_cases h0:e.Kind=0
      · rw [if_pos h0,decide_eq_true h0,cond_true,Qj,Qj,ZL _ (by simp),Qj];cases Zt p e.A<;>cases XQ p e.B<;>rfl
      · rw [if_neg h0,decide_eq_false h0,cond_false];by_cases h1:e.Kind=1
        · rw [if_pos h1,decide_eq_true h1,cond_true,Qj,Qj,ZL _ (by simp),Qj];cases Zt p e.A<;>cases Qgs p e.B<;>rfl
        · rw [if_neg h1,decide_eq_false h1,cond_false,Qj,Qj,ZL _ (by simp),Qj];by_cases h3:e.B=0
          · rw [if_pos h3,decide_eq_true h3];cases Zt p e.A<;>rfl
          · rw [if_neg h3,decide_eq_false h3];cases Zt p e.A<;>rfl
  · rw [if_pos hk, show (decide (0 <= e.Kind) && decide (e.Kind <= 6)) = false by
      rw [EI,decide_eq_false_iff_not,decide_eq_false_iff_not];omega]
    rfl
def Zr (x:Nd) (e:Nj):Nl:=x.Na[e.A.toNat]?.getD ⟨[],0⟩
def Qhc (p:Nf) (e:Nj):Nt:=p.Nb[e.A.toNat]?.getD ⟨ByteArray.mk #[],0⟩
def Qay (p:Nf) (e:Nj):Ns:=p.Ni[e.B.toNat]?.getD ⟨ByteArray.mk #[],[],[]⟩
def Zc (p:Nf) (x:Nd) (e:Nj):Int :=
 if e.Kind=2 then (bif YI x (Qhc p e).Nn then 17 else 0) else
 if e.Kind=0 then (if (Zr x e).Nc.length=0 then (bif YI x e.B then 17 else 0) else 22) else
 if (Zr x e).Nc.length=0 then 22 else
 if e.Kind=1 then (if (Qay p e).Ng.head?=(Zr x e).Nc.getLast? then (bif ((Qay p e).Ng.drop 1).any (YI x) then 17 else bif YV p x.Nb (Qay p e) (Qay p e).Ng then 0 else 13) else 23) else
 if e.Kind=4 then (if 1 < (Zr x e).Nm then 0 else 12) else
 if e.Kind=3\/e.Kind=5 then (if (Zr x e).Nm < (Zr x e).Nc.length then 0 else 12) else
 if (Zr x e).Nc.length=1 then 0 else 17
def trX (p:Nf) (t:Nl) (e:Nj):Nl :=
 if e.Kind=0 then ⟨[e.B],1⟩ else if e.Kind=1 then ⟨t.Nc++(Qay p e).Ng.drop 1,t.Nm⟩ else if e.Kind=3 then ⟨t.Nc,t.Nm+1⟩ else
 if e.Kind=4 then ⟨t.Nc.drop 1,t.Nm - 1⟩ else if e.Kind=5 then ⟨t.Nc.take (t.Nc.length - 1),t.Nm⟩ else ⟨[],0⟩
def XC (p:Nf) (x:Nd) (e:Nj):Nd :=
 if e.Kind=2 then ⟨x.Nb.set e.A.toNat e.B,x.Na,x.Nh⟩ else ⟨x.Nb,x.Na.set e.A.toNat (trX p (Zr x e) e),x.Nh⟩
end Go.Gw

end
section
set_option maxRecDepth 4096
namespace Go.Gw
open Go
attribute [local irreducible] loop
theorem Qhy {f:Nat->Int} {n:Nat} (h:Xz f n=none):∀ j,j < n->f j=0:=by
 rcases Qlq f n with ⟨_,h2⟩ | ⟨i,h1,_⟩
 ·exact h2
 ·rw [h1] at h;cases h
theorem Qak {f:Nat->Int} {n i:Nat} (h:Xz f n=some i):i < n/\f i≠0/\∀ j,j < i->f j=0:=by
 rcases Qlq f n with ⟨h1,_⟩ | ⟨j,h1,h2,h3,h4⟩
 ·rw [h1] at h;cases h
 ·rw [h1] at h;cases h;exact ⟨h2,h3,h4⟩
theorem QJr {f:Nat->Int} {n:Nat} (h:∀ j,j < n->f j=0):Xz f n=none:=by
 cases hf:Xz f n with
 | none=>rfl
 | some i=>obtain ⟨h1,h2,_⟩:=Qak hf;exact absurd (h i h1) h2
theorem QAz {α:Type} {l:List α} (h:∀ k (hk:k < l.length),l[k]∉l.take k):l.Nodup:=by
 unfold EA;rw [EB];intro i j hi hj hij e;refine h j hj ?_;rw [<-e];exact Eg.2 ⟨i,by omega,rfl⟩
theorem QQm {α:Type} {l:List α} (h:l.Nodup) {k:Nat} (hk:k < l.length):l[k]∉l.take k:=by
 intro hm;obtain ⟨i,hi,e⟩:=Eg.1 hm;unfold EA at h;rw [EB] at h;exact h i k (by omega) hk (by omega) e
structure PlantOk (p:Nf):Prop where
 s1:1<=p.Ng.length
 s8:p.Ng.length<=8
 t1:1<=p.Na.length
 t3:p.Na.length<=3
 w4:p.Nb.length<=4
 r10:p.Ni.length<=10
 ws:∀ s∈p.Nb,XQ p s.Nn=true
 r2:∀ r∈p.Ni,2<=r.Ng.length
 r8:∀ r∈p.Ni,r.Ng.length<=p.Ng.length
 rs:∀ r∈p.Ni,∀ s∈r.Ng,XQ p s=true
 rd:∀ r∈p.Ni,r.Ng.Nodup
 rn:∀ r∈p.Ni,r.Nu.length=p.Nb.length
 rx:∀ r∈p.Ni,(r.Nu.zip p.Nb).any (Qaw r)=false
theorem Qgq {p:Nf} {r:Ns} (h:rtX p r=0):2<=r.Ng.length/\r.Ng.length<=p.Ng.length/\(∀ s∈r.Ng,XQ p s=true)/\r.Ng.Nodup/\r.Nu.length=p.Nb.length/\(r.Nu.zip p.Nb).any (Qaw r)=false:=by
 unfold rtX at h;by_cases h1:r.Ng.length < 2
 ·rw [if_pos h1] at h;cases h
 rw [if_neg h1] at h;by_cases h2:p.Ng.length < r.Ng.length
 ·rw [if_pos h2] at h;cases h
 rw [if_neg h2] at h;cases hf:Xz (JS p r) r.Ng.length with
 | some i=>rw [hf] at h;exact absurd h (Qak hf).2.1
 | none =>
  rw [hf] at h;have hz:∀ k (hk:k < r.Ng.length),rsE p r k r.Ng[k]=0:=fun k hk=>by
   have:=Qhy hf k hk;rwa [show JS p r k=rsE p r k r.Ng[k] from Jg _ _ _ hk] at this
  have hz2:∀ k (hk:k < r.Ng.length),XQ p r.Ng[k]=true/\r.Ng[k]∉r.Ng.take k:=fun k hk=>by
   have:=hz k hk;unfold rsE at this;cases hb:XQ p r.Ng[k] with
   | false=>rw [hb] at this;cases this
   | true =>
    rw [hb,cond_true] at this;refine ⟨rfl,fun hm=>?_⟩;rw [decide_eq_true hm] at this;cases this
  have h3:r.Nu.length=p.Nb.length/\(r.Nu.zip p.Nb).any (Qaw r)=false:=by
   by_cases h5:r.Nu.length=p.Nb.length
   ·simp only [h5,if_true] at h;refine ⟨h5,?_⟩;cases hb:(r.Nu.zip p.Nb).any (Qaw r) with
    | false=>rfl
    | true=>rw [hb] at h;cases h
   ·simp only [h5,if_false] at h;cases h
  refine ⟨by omega,by omega,fun s hs=>?_,QAz fun k hk=>(hz2 k hk).2,h3.1,h3.2⟩;obtain ⟨k,hk,rfl⟩:=Ec hs;exact (hz2 k hk).1
theorem Qnq {p:Nf} (h:(Jy p).2=0):PlantOk p:=by
 unfold Jy at h;by_cases h1:p.Ng.length=0\/p.Na.length=0
 ·rw [if_pos h1] at h;cases h
 rw [if_neg h1] at h;by_cases h2:8 < p.Ng.length\/3 < p.Na.length\/4 < p.Nb.length\/10 < p.Ni.length
 ·rw [if_pos h2] at h;cases h
 rw [if_neg h2] at h;cases h3:Xz (Zo p.Ng) p.Ng.length with
 | some i=>rw [h3] at h;exact absurd h (Qak h3).2.1
 | none =>
  rw [h3] at h;cases h4:Xz (Zo p.Na) p.Na.length with
  | some i=>rw [h4] at h;exact absurd h (Qak h4).2.1
  | none =>
   rw [h4] at h;cases h5:Xz (Z3 p) p.Nb.length with
   | some i=>rw [h5] at h;exact absurd h (Qak h5).2.1
   | none =>
    rw [h5] at h;cases h6:Xz (Z1 p) p.Ni.length with
    | some i=>rw [h6] at h;exact absurd h (Qak h6).2.1
    | none =>
     have hr:∀ r∈p.Ni,rtX p r=0:=fun r hr=>by
      obtain ⟨k,hk,rfl⟩:=Ec hr;have:=Qhy h6 k hk;rw [show Z1 p k=rtE p k p.Ni[k] from Jg _ _ _ hk] at this;unfold rtE at this;by_cases hn:ZZ p.Ni[k].Name ((p.Ni.take k).map (·.Name))=0
      ·rwa [if_pos hn] at this
      ·rw [if_neg hn] at this;exact absurd this hn
     refine ⟨by omega,by omega,by omega,by omega,by omega,by omega,fun s hs=>?_,fun r h=>(Qgq (hr r h)).1,fun r h=>(Qgq (hr r h)).2.1,fun r h=>(Qgq (hr r h)).2.2.1,fun r h=>(Qgq (hr r h)).2.2.2.1,fun r h=>(Qgq (hr r h)).2.2.2.2.1,fun r h=>(Qgq (hr r h)).2.2.2.2.2⟩;obtain ⟨k,hk,rfl⟩:=Ec hs;have:=Qhy h5 k hk;rw [show Z3 p k=swE p k p.Nb[k] from Jg _ _ _ hk] at this;unfold swE at this;by_cases hn:ZZ p.Nb[k].Name ((p.Nb.take k).map (·.Name))=0
     ·rw [if_pos hn] at this;unfold swX at this;cases hb:XQ p p.Nb[k].Nn with
      | true=>rfl
      | false=>rw [hb] at this;cases this
     ·rw [if_neg hn] at this;exact absurd this hn
def Jk (r:Ns) (a b:Int):Bool:=(r.Ng.zip (r.Ng.drop 1)).any fun q=>decide (q.1=a)&&decide (q.2=b)
def Qaa (p:Nf) (sw:List Int) (a b:Int):Bool:=p.Ni.any fun r=>Jk r a b&&YV p sw r [a,b]
theorem pairB_iff {r:Ns} {a b:Int}:Jk r a b=true↔∃ k,∃ hk:k+1 < r.Ng.length,r.Ng[k]=a/\r.Ng[k+1]=b:=by
 unfold Jk;rw [List.any_eq_true];constructor
 ·rintro ⟨q,hq,h⟩;obtain ⟨k,hk,rfl⟩:=Ec hq;simp only [Ew,Ek] at hk;simp only [Ej,Ep,El,decide_eq_true_eq] at h;refine ⟨k,by omega,h.1,?_⟩;rw [<-h.2];congr 1;omega
 ·rintro ⟨k,hk,h1,h2⟩;refine ⟨(r.Ng[k],r.Ng[k+1]),?_,by simp [h1,h2]⟩;rw [EJ];refine ⟨k,by simp only [Ew,Ek];omega,?_⟩;simp only [Ej,Ep,Prod.mk.injEq,true_and];congr 1;omega
structure StateOk (p:Nf) (x:Nd):Prop where
 sw:x.Nb.length=p.Nb.length
 tr:x.Na.length=p.Na.length
 pos:∀ n∈x.Nb,Yb n=true
 cnt:JM x.Nh=true
 un:∀ t∈x.Na,(t.Nc=[]/\t.Nm=0)\/(1<=t.Nm/\t.Nm<=t.Nc.length)
 sc:∀ t∈x.Na,∀ s∈t.Nc,XQ p s=true
 nd:∀ t∈x.Na,t.Nc.Nodup
 dj:∀ i j (hi:i < x.Na.length) (hj:j < x.Na.length),i≠j->∀ s∈x.Na[i].Nc,s∉x.Na[j].Nc
 ld:∀ t∈x.Na,∀ k (hk:k+1 < t.Nc.length),Qaa p x.Nb t.Nc[k] t.Nc[k+1]=true
theorem Qnj:∀ (n:Nat) (l:List Int),l.Nodup->(∀ s∈l,0<=s/\s < (n:Int))->l.length<=n
  | 0,l,_,h=>by
    cases l with
    | nil=>simp
    | cons x xs=>have:=h x (by simp);omega
  | n+1,l,hn,h=>by
    have h1:=Qnj n (l.filter fun s=>decide (s≠(n:Int))) (hn.filter _) fun s hs=>by
      rw [List.mem_filter] at hs;have:=h s hs.1;have:=hs.2;simp at this;omega
    have h2:l.length<=(l.filter fun s=>decide (s≠(n:Int))).length+1:=by
      clear h h1
      induction l with
      | nil=>simp
      | cons x xs ih =>
        rw [List.nodup_cons] at hn;by_cases hx:x=(n:Int)
        · have : xs.filter (fun s => decide (s ≠ (n : Int))) = xs := by
            rw [List.filter_eq_self];intro a ha;simp only [ne_eq,decide_not,Es,decide_eq_false_iff_not];intro e;subst hx;subst e;exact hn.1 ha
          rw [List.filter_cons_of_neg (by simp [hx]),this];simp
        · rw [List.filter_cons_of_pos (by simp [hx])];have:=ih hn.2;simp only [List.length_cons];omega
    omega
theorem StateOk.len {p:Nf} {x:Nd} (h:StateOk p x) {t:Nl} (ht:t∈x.Na):t.Nc.length<=p.Ng.length :=
 Qnj _ _ (h.nd t ht) fun s hs=>by
  have:=h.sc t ht s hs;unfold XQ at this;simp at this;omega
theorem StateOk.s {p:Nf} (hp:PlantOk p) {x:Nd} (h:StateOk p x):StateS x :=
 ⟨by have:=h.sw;have:=hp.w4;omega,by have:=h.tr;have:=hp.t3;omega,fun t ht=>by have:=h.len ht;have:=hp.s8;omega⟩
end Go.Gw

end
section
set_option maxRecDepth 4096
namespace Go.Gw
open Go
attribute [local irreducible] loop
theorem liesB_iff {p:Nf} {sw:List Int} {r:Ns} {secs:List Int}:YV p sw r secs=true↔∀ k (h1:k < p.Nb.length) (h2:k < r.Nu.length) (h3:k < sw.length),p.Nb[k].Nn∈secs->r.Nu[k]=sw[k]:=by
  unfold YV;rw [Es,Ei];constructor
  · intro h k h1 h2 h3 hm;have:=h (p.Nb[k],(r.Nu[k],sw[k])) (by
      rw [EJ];exact ⟨k,by simp only [Ew];omega,by simp only [Ej]⟩)
    simp only [Qeg,hm,decide_true,Et,Es,decide_eq_false_iff_not,Decidable.not_not] at this;exact this
  · intro h q hq;obtain ⟨k,hk,rfl⟩:=Ec hq;simp only [Ew] at hk;simp only [Ej,Qeg,El,decide_eq_true_eq,Es,decide_eq_false_iff_not,not_and,Decidable.not_not];exact fun hm=>h k (by omega) (by omega) (by omega) hm
theorem QLz {p:Nf} {sw:List Int} {r:Ns} {a b:List Int} (h:YV p sw r a=true) (hs:∀ s∈b,s∈a):YV p sw r b=true :=
 liesB_iff.2 fun k h1 h2 h3 hm=>liesB_iff.1 h k h1 h2 h3 (hs _ hm)
theorem QMa {p:Nf} {sw:List Int} {r:Ns} {a:List Int} {i:Nat} {v:Int} (hi:∀ h:i < p.Nb.length,p.Nb[i].Nn∉a) (h:YV p sw r a=true):YV p (sw.set i v) r a=true :=
 liesB_iff.2 fun k h1 h2 h3 hm=>by
  have hne:i≠k:=fun e=>by subst e;exact hi h1 hm
  rw [List.getElem_set_ne hne];exact liesB_iff.1 h k h1 h2 (by simpa using h3) hm
theorem leadsB_iff {p:Nf} {sw:List Int} {a b:Int}:Qaa p sw a b=true↔∃ r∈p.Ni,Jk r a b=true/\YV p sw r [a,b]=true:=by
 unfold Qaa;rw [List.any_eq_true];simp only [El]
theorem Quo {x:Nd} {s:Int} (h:YI x s=false):∀ t∈x.Na,s∉t.Nc:=by
 unfold YI at h;rw [Ei] at h;intro t ht hm;exact h t ht (decide_eq_true hm)
theorem Qgv {p:Nf} {x:Nd} (h:StateOk p x) {a:Nat} (ha:a < x.Na.length) {t:Nl} (h1:(t.Nc=[]/\t.Nm=0)\/(1<=t.Nm/\t.Nm<=t.Nc.length)) (h2:∀ s∈t.Nc,XQ p s=true) (h3:t.Nc.Nodup)
  (h4:∀ j (hj:j < x.Na.length),j≠a->∀ s∈t.Nc,s∉x.Na[j].Nc) (h5:∀ k (hk:k+1 < t.Nc.length),Qaa p x.Nb t.Nc[k] t.Nc[k+1]=true):StateOk p ⟨x.Nb,x.Na.set a t,x.Nh⟩:=by
 have hm:∀ u∈x.Na.set a t,u=t\/u∈x.Na:=fun u hu=>by
  rcases EC hu with h | h
  ·exact .inr h
  ·exact .inl h
 refine ⟨h.sw,by simpa using h.tr,h.pos,h.cnt,fun u hu=>?_,fun u hu=>?_,fun u hu=>?_,fun i j hi hj hij s hs=>?_,fun u hu=>?_⟩
 ·rcases hm u hu with rfl | hu
  ·exact h1
  ·exact h.un u hu
 ·rcases hm u hu with rfl | hu
  ·exact h2
  ·exact h.sc u hu
 ·rcases hm u hu with rfl | hu
  ·exact h3
  ·exact h.nd u hu
 ·simp only [List.length_set] at hi hj;simp only [List.getElem_set] at hs ⊢;by_cases h6:a=i
  ·rw [if_pos h6] at hs;rw [if_neg (by omega)];exact h4 j hj (by omega) s hs
  ·rw [if_neg h6] at hs;by_cases h7:a=j
   ·rw [if_pos h7];exact fun hm=>h4 i hi (by omega) s hm hs
   ·rw [if_neg h7];exact h.dj i j hi hj hij s hs
 ·rcases hm u hu with rfl | hu
  ·exact h5
  ·exact h.ld u hu
theorem Qlp {p:Nf} {e:Nj} (h:ZB p e=0):0<=e.Kind/\e.Kind<=6:=by
 unfold ZB at h;by_cases h1:¬ (0<=e.Kind/\e.Kind<=6)
 ·rw [if_pos h1] at h;cases h
 ·omega
theorem Qrb {p:Nf} {e:Nj} (h:ZB p e=0) (hk:e.Kind=2):0<=e.A/\e.A.toNat < p.Nb.length/\Yb e.B=true:=by
 have h1:=Qlp h;unfold ZB at h;rw [if_neg (by omega),if_pos hk] at h;cases hb:Qhd p e.A with
 | false=>rw [hb] at h;cases h
 | true =>
  rw [hb] at h;cases hc:Yb e.B with
  | false=>rw [hc] at h;cases h
  | true =>
   unfold Qhd at hb;simp at hb;exact ⟨hb.1,by omega,rfl⟩
theorem Qxp {p:Nf} {e:Nj} (h:ZB p e=0) (hk:e.Kind≠2):0<=e.A/\e.A.toNat < p.Na.length/\(e.Kind=0->XQ p e.B=true)/\(e.Kind=1->0<=e.B/\e.B.toNat < p.Ni.length)/\(e.Kind≠0->e.Kind≠1->e.B=0):=by
 have h1:=Qlp h;unfold ZB at h;rw [if_neg (by omega),if_neg hk] at h;cases hb:Zt p e.A with
 | false=>rw [hb] at h;cases h
 | true =>
  rw [hb,cond_true] at h;unfold Zt at hb;simp at hb;refine ⟨hb.1,by omega,fun h0=>?_,fun h0=>?_,fun h0 h2=>?_⟩
  ·rw [if_pos h0] at h;cases hc:XQ p e.B with
   | true=>rfl
   | false=>rw [hc] at h;cases h
  ·rw [if_neg (by omega),if_pos h0] at h;cases hc:Qgs p e.B with
   | false=>rw [hc] at h;cases h
   | true=>unfold Qgs at hc;simp at hc;omega
  ·rw [if_neg h0,if_neg h2] at h;by_cases h3:e.B=0
   ·exact h3
   ·rw [if_neg h3] at h;cases h
theorem Qpd {x:Nd} {e:Nj} (h:e.A.toNat < x.Na.length):Zr x e=x.Na[e.A.toNat]:=by
 unfold Zr;rw [Eb h];rfl
theorem Qul {p:Nf} {e:Nj} (h:e.A.toNat < p.Nb.length):Qhc p e=p.Nb[e.A.toNat]:=by
 unfold Qhc;rw [Eb h];rfl
theorem Qtm {p:Nf} {e:Nj} (h:e.B.toNat < p.Ni.length):Qay p e=p.Ni[e.B.toNat]:=by
 unfold Qay;rw [Eb h];rfl
theorem Qew {p:Nf} (hp:PlantOk p) {x:Nd} (h:StateOk p x) {e:Nj} (he:ZB p e=0) (hs:Zc p x e=0):StateOk p (XC p x e):=by
  have hk:=Qlp he;unfold XC;by_cases h2:e.Kind=2
  · rw [if_pos h2];obtain ⟨a0,a1,a2⟩:=Qrb he h2;unfold Zc at hs;rw [if_pos h2] at hs;have hn:YI x (Qhc p e).Nn=false:=by
      cases hb:YI x (Qhc p e).Nn with
      | false=>rfl
      | true=>rw [hb] at hs;cases hs
    rw [Qul a1] at hn;refine ⟨by simpa using h.sw,h.tr,fun n hn=>?_,h.cnt,h.un,h.sc,h.nd,h.dj,fun t ht k hk=>?_⟩
    · rcases EC hn with h3 | rfl
      · exact h.pos n h3
      · exact a2
    · obtain ⟨r,hr,h3,h4⟩:=leadsB_iff.1 (h.ld t ht k hk);refine leadsB_iff.2 ⟨r,hr,h3,QMa (fun hi hm=>?_) h4⟩;have h5:=Quo hn t ht;rcases List.mem_cons.1 hm with e1 | hm
      · rw [e1] at h5;exact h5 (Ea _)
      · rw [En.1 hm] at h5;exact h5 (Ea _)
  rw [if_neg h2];obtain ⟨a0,a1,a2,a3,a4⟩:=Qxp he h2;have ha:e.A.toNat < x.Na.length:=by rw [h.tr];exact a1
  have ht:Zr x e∈x.Na:=by rw [Qpd ha];exact Ea ha
  have hd:∀ j (hj:j < x.Na.length),j≠e.A.toNat->∀ s∈(Zr x e).Nc,s∉x.Na[j].Nc:=fun j hj hne s hs=>by
    rw [Qpd ha] at hs;exact h.dj _ j ha hj (by omega) s hs
  have hu:=h.un _ ht;have hsc:=h.sc _ ht;have hnd:=h.nd _ ht;have hld:=h.ld _ ht;unfold Zc at hs;rw [if_neg h2] at hs;unfold trX;generalize Zr x e=t at *
  by_cases h0:e.Kind=0
  · rw [if_pos h0] at hs;rw [if_pos h0];by_cases hc:t.Nc.length=0
    · rw [if_pos hc] at hs;have hn:YI x e.B=false:=by
        cases hb:YI x e.B with
        | false=>rfl
        | true=>rw [hb] at hs;cases hs
      refine Qgv h ha (.inr (by simp)) (fun s hs=>?_) (by simp) (fun j hj hne s hs hm=>?_) (fun k hk=>?_)
      · simp only [En] at hs;subst hs;exact a2 h0
      · simp only [En] at hs;subst hs;exact Quo hn _ (Ea hj) hm
      · simp at hk
    · rw [if_neg hc] at hs;cases hs
  rw [if_neg h0] at hs;rw [if_neg h0];by_cases hc:t.Nc.length=0
  · rw [if_pos hc] at hs;cases hs
  rw [if_neg hc] at hs;have hu2:1<=t.Nm/\t.Nm<=t.Nc.length:=by
    rcases hu with ⟨h3,_⟩ | h3
    · rw [h3] at hc;exact absurd rfl hc
    · exact h3
  by_cases h1:e.Kind=1
  · rw [if_pos h1] at hs;rw [if_pos h1];obtain ⟨b0,b1⟩:=a3 h1;have hr:Qay p e∈p.Ni:=by rw [Qtm b1];exact Ea b1
    generalize Qay p e=r at *
    by_cases h3:r.Ng.head?=t.Nc.getLast?
    · rw [if_pos h3] at hs;have hn:(r.Ng.drop 1).any (YI x)=false:=by
        cases hb:(r.Ng.drop 1).any (YI x) with
        | false=>rfl
        | true=>rw [hb] at hs;cases hs
      have hl:YV p x.Nb r r.Ng=true:=by
        rw [hn] at hs;cases hb:YV p x.Nb r r.Ng with
        | true=>rfl
        | false=>rw [hb] at hs;cases hs
      rw [Ei] at hn;have hn2:∀ s∈r.Ng.drop 1,∀ u∈x.Na,s∉u.Nc:=fun s hs=>Quo (by have:=hn s hs;simpa using this)
      have h2r:=hp.r2 r hr;have hlast:∀ hi:t.Nc.length - 1 < t.Nc.length,∀ hj:0 < r.Ng.length,t.Nc[t.Nc.length - 1]=r.Ng[0]:=fun hi hj=>by
        rw [EG,ED,Eb hj,Eb hi] at h3;exact (EP.inj h3).symm
      refine Qgv h ha (.inr ?_) (fun s hs=>?_) ?_ (fun j hj hne s hs=>?_) (fun k hk=>?_)
      · simp only [Eo];omega
      · rcases List.mem_append.1 hs with h4 | h4
        · exact hsc s h4
        · exact hp.rs r hr s (Ex h4)
      · show (t.Nc++r.Ng.drop 1).Nodup;rw [List.nodup_append];refine ⟨hnd,EA.sublist (List.drop_sublist _ _) (hp.rd r hr),fun s hs u hu e=>?_⟩;subst e;exact hn2 s hu t ht hs
      · rcases List.mem_append.1 hs with h4 | h4
        · exact hd j hj hne s h4
        · exact hn2 s h4 _ (Ea hj)
      · simp only [Eo,Ek] at hk;by_cases h5:k+1 < t.Nc.length
        · simp only [List.getElem_append,h5,dif_pos,show k < t.Nc.length by omega];exact hld k h5
        · have e2 : (t.Nc ++ r.Ng.drop 1)[k + 1]'(by simp only [Eo, Ek]; omega) = r.Ng[k + 1 - t.Nc.length + 1]'(by omega) := by
            rw [EE (by omega),Ep];congr 1;omega
          have e1:(t.Nc++r.Ng.drop 1)[k]'(by simp only [Eo, Ek];omega)=r.Ng[k+1 - t.Nc.length]'(by omega) := by
            by_cases h6:k+1=t.Nc.length
            · rw [List.getElem_append_left (show k < t.Nc.length by omega)];have:=hlast (by omega) (by omega);simp only [show k+1 - t.Nc.length=0 by omega,<-this];congr 1;omega
            · rw [EE (by omega),Ep];congr 1;omega
          rw [e1,e2];refine leadsB_iff.2 ⟨r,hr,pairB_iff.2 ⟨k+1 - t.Nc.length,by omega,rfl,rfl⟩,QLz hl fun s hs=>?_⟩;rcases List.mem_cons.1 hs with rfl | hs
          · exact Ea _
          · rw [En.1 hs];exact Ea _
    · rw [if_neg h3] at hs;cases hs
  rw [if_neg h1] at hs;rw [if_neg h1];by_cases h4:e.Kind=4
  · rw [if_pos h4] at hs;rw [if_neg (by omega),if_pos h4];have hx:1 < t.Nm:=by
      by_cases h5:1 < t.Nm
      · exact h5
      · rw [if_neg h5] at hs;cases hs
    refine Qgv h ha (.inr ?_) (fun s hs=>hsc s (Ex hs)) (EA.sublist (List.drop_sublist _ _) hnd) (fun j hj hne s hs=>hd j hj hne s (Ex hs)) (fun k hk=>?_)
    · simp only [Ek];omega
    · simp only [Ek] at hk;simp only [Ep];have:=hld (1+k) (by omega);exact this
  rw [if_neg h4] at hs;rw [show (if e.Kind=4 then (⟨t.Nc.drop 1,t.Nm - 1⟩:Nl) else if e.Kind=5 then ⟨t.Nc.take (t.Nc.length - 1),t.Nm⟩ else ⟨[],0⟩)=(if e.Kind=5 then ⟨t.Nc.take (t.Nc.length - 1),t.Nm⟩ else ⟨[],0⟩) from if_neg h4];by_cases h35:e.Kind=3\/e.Kind=5
  · rw [if_pos h35] at hs;have hx:t.Nm < t.Nc.length:=by
      by_cases h5:t.Nm < t.Nc.length
      · exact h5
      · rw [if_neg h5] at hs;cases hs
    by_cases h3:e.Kind=3
    · rw [if_pos h3];exact Qgv h ha (.inr ⟨by show 1<=t.Nm+1;omega,by show t.Nm+1<=(t.Nc.length:Int);omega⟩) hsc hnd hd hld
    · rw [if_neg h3,if_pos (by omega)];refine Qgv h ha (.inr ?_) (fun s hs=>hsc s (EK hs)) (EA.sublist (List.take_sublist _ _) hnd) (fun j hj hne s hs=>hd j hj hne s (EK hs)) (fun k hk=>?_)
      · simp only [List.length_take];omega
      · simp only [List.length_take] at hk;simp only [List.getElem_take];exact hld k (by omega)
  · rw [if_neg (by omega),if_neg (by omega)];exact Qgv h ha (.inl ⟨rfl,rfl⟩) (fun s hs=>by simp at hs) (by simp) (fun j hj hne s hs=>by simp at hs) (fun k hk=>by simp at hk)
end Go.Gw

end
section
set_option maxRecDepth 4096
namespace Go.Gw
open Go
attribute [local irreducible] loop
def chE (p:Nf) (x:Nd) (n:Nat) (t:Nl) (k:Nat) (s:Int):Int :=
 bif XQ p s then (bif decide (s∈t.Nc.take k)||(x.Na.take n).any (fun o=>decide (s∈o.Nc)) then 17 else if k=0 then 0 else bif Qaa p x.Nb (t.Nc[k - 1]?.getD 0) s then 0 else 23) else 6
def JC (p:Nf) (x:Nd) (n:Nat) (t:Nl) (k:Nat):Int:=(t.Nc[k]?.map (chE p x n t k)).getD 0
def Qah (t:Nl):Bool:=if t.Nc.length=0 then decide (t.Nm=0) else decide (1<=t.Nm)&&decide (t.Nm<=t.Nc.length)
def tsE (p:Nf) (x:Nd) (n:Nat) (t:Nl):Int:=bif Qah t then (match Xz (JC p x n t) t.Nc.length with | some k=>JC p x n t k | none=>0) else 3
def JW (p:Nf) (x:Nd) (n:Nat):Int:=(x.Na[n]?.map (tsE p x n)).getD 0
def Qev (p:Nf) (x:Nd):Int :=
 if x.Nb.length=p.Nb.length/\x.Na.length=p.Na.length then
  (bif x.Nb.all Yb&&JM x.Nh then (match Xz (JW p x) x.Na.length with | some k=>JW p x k | none=>0) else 2) else 10
theorem tsE_zero {p:Nf} {x:Nd} {n:Nat} {t:Nl}:tsE p x n t=0↔Qah t=true/\∀ k (hk:k < t.Nc.length),chE p x n t k t.Nc[k]=0:=by
 unfold tsE;cases hu:Qah t with
 | false=>simp
 | true =>
  simp only [cond_true,true_and];have hg:∀ k (hk:k < t.Nc.length),JC p x n t k=chE p x n t k t.Nc[k]:=fun k hk=>Jg _ _ _ hk
  cases hf:Xz (JC p x n t) t.Nc.length with
  | some k =>
   obtain ⟨h1,h2,_⟩:=Qak hf;constructor
   ·intro h;exact absurd h h2
   ·intro h;exact absurd ((hg k h1).trans (h k h1)) h2
  | none=>exact ⟨fun _ k hk=>(hg k hk).symm.trans (Qhy hf k hk),fun _=>rfl⟩
theorem chE_zero {p:Nf} {x:Nd} {n:Nat} {t:Nl} {k:Nat} {s:Int}:chE p x n t k s=0↔XQ p s=true/\s∉t.Nc.take k/\(∀ o∈x.Na.take n,s∉o.Nc)/\(k≠0->Qaa p x.Nb (t.Nc[k - 1]?.getD 0) s=true):=by
  unfold chE;cases XQ p s with
  | false=>simp
  | true =>
    simp only [cond_true,true_and];by_cases h1:s∈t.Nc.take k
    · simp [h1]
    by_cases h2:∀ o∈x.Na.take n,s∉o.Nc
    · have h3 : (x.Na.take n).any (fun o => decide (s ∈ o.Nc)) = false := by
        rw [Ei];intro o ho hm;exact h2 o ho (of_decide_eq_true hm)
      rw [h3,decide_eq_false h1];by_cases hk:k=0
      · simp [hk];exact h2
      · simp only [EN,cond_false,if_neg hk];cases Qaa p x.Nb (t.Nc[k - 1]?.getD 0) s with
        | false=>simp [hk]
        | true=>simp [h1];exact h2
    · have h3 : (x.Na.take n).any (fun o => decide (s ∈ o.Nc)) = true := by
        cases hb:(x.Na.take n).any (fun o=>decide (s∈o.Nc)) with
        | true=>rfl
        | false =>
          rw [Ei] at hb;exact absurd (fun o ho hm=>hb o ho (decide_eq_true hm)) h2
      rw [h3,Bool.or_true];simp [h2]
theorem undB_iff {t:Nl}:Qah t=true↔(t.Nc=[]/\t.Nm=0)\/(1<=t.Nm/\t.Nm<=t.Nc.length):=by
 unfold Qah;by_cases h:t.Nc.length=0
 ·rw [if_pos h];have h2:t.Nc=[]:=List.length_eq_zero_iff.1 h;simp only [decide_eq_true_eq];constructor
  ·intro h3;exact .inl ⟨h2,h3⟩
  ·rintro (h3 | h3)
   ·exact h3.2
   ·omega
 ·rw [if_neg h];simp only [El,decide_eq_true_eq];constructor
  ·intro h3;exact .inr h3
  ·rintro (h3 | h3)
   ·rw [h3.1] at h;exact absurd rfl h
   ·exact h3
theorem state_iff {p:Nf} {x:Nd}:Qev p x=0↔StateOk p x:=by
  have hg:∀ k (hk:k < x.Na.length),JW p x k=tsE p x k x.Na[k]:=fun k hk=>Jg _ _ _ hk
  unfold Qev;constructor
  · intro h;by_cases h1:x.Nb.length=p.Nb.length/\x.Na.length=p.Na.length
    · rw [if_pos h1] at h;cases h2:x.Nb.all Yb&&JM x.Nh with
      | false=>rw [h2] at h;cases h
      | true =>
        rw [h2,cond_true] at h;rw [El,List.all_eq_true] at h2;cases hf:Xz (JW p x) x.Na.length with
        | some k=>rw [hf] at h;exact absurd h (Qak hf).2.1
        | none =>
          have hz:∀ n (hn:n < x.Na.length),Qah x.Na[n]=true/\∀ k (hk:k < x.Na[n].Nc.length),chE p x n x.Na[n] k x.Na[n].Nc[k]=0:=fun n hn=>tsE_zero.1 ((hg n hn).symm.trans (Qhy hf n hn))
          refine ⟨h1.1,h1.2,h2.1,h2.2,fun t ht=>?_,fun t ht s hs=>?_,fun t ht=>?_,fun i j hi hj hij s hs hm=>?_,fun t ht k hk=>?_⟩
          · obtain ⟨n,hn,rfl⟩:=Ec ht;exact undB_iff.1 (hz n hn).1
          · obtain ⟨n,hn,rfl⟩:=Ec ht;obtain ⟨k,hk,rfl⟩:=Ec hs;exact (chE_zero.1 ((hz n hn).2 k hk)).1
          · obtain ⟨n,hn,rfl⟩:=Ec ht;exact QAz fun k hk=>(chE_zero.1 ((hz n hn).2 k hk)).2.1
          · rcases Nat.lt_or_gt_of_ne hij with h3 | h3
            · obtain ⟨k,hk,rfl⟩:=Ec hm;exact (chE_zero.1 ((hz j hj).2 k hk)).2.2.1 _ (Eg.2 ⟨i,by omega,rfl⟩) hs
            · obtain ⟨k,hk,rfl⟩:=Ec hs;exact (chE_zero.1 ((hz i hi).2 k hk)).2.2.1 _ (Eg.2 ⟨j,by omega,rfl⟩) hm
          · obtain ⟨n,hn,rfl⟩:=Ec ht;have:=(chE_zero.1 ((hz n hn).2 (k+1) hk)).2.2.2 (by omega);rwa [Nat.add_sub_cancel,Eb (show k < x.Na[n].Nc.length by omega),Option.getD_some] at this
    · rw [if_neg h1] at h;cases h
  · intro h;rw [if_pos ⟨h.sw,h.tr⟩,show (x.Nb.all Yb&&JM x.Nh)=true by rw [El,List.all_eq_true];exact ⟨h.pos,h.cnt⟩,cond_true];rw [QJr fun n hn=>by
      rw [hg n hn,tsE_zero];have ht:=Ea hn;refine ⟨undB_iff.2 (h.un _ ht),fun k hk=>chE_zero.2 ⟨h.sc _ ht _ (Ea hk),QQm (h.nd _ ht) hk,fun o ho hm=>?_,fun hk0=>?_⟩⟩
      · obtain ⟨i,hi,rfl⟩:=Eg.1 ho;exact h.dj i n (by omega) hn (by omega) _ hm (Ea hk)
      · rw [Eb (show k - 1 < x.Na[n].Nc.length by omega),Option.getD_some];have:=h.ld _ ht (k - 1) (by omega);simp only [show k - 1+1=k by omega] at this;exact this]
end Go.Gw

end
section
set_option maxRecDepth 4096
namespace Go.Gw
open Go
attribute [local irreducible] loop
theorem QKm {a b:List Int} (ha:0 < a.length) (hb:0 < b.length):decide (a[0]=b[b.length - 1])=decide (a.head?=b.getLast?):=by
 rw [EG,ED,Eb ha,Eb (show b.length - 1 < b.length by omega)];simp only [EP.injEq]
theorem Qwd {p:Nf} (hp:PlantOk p) {x:Nd} (h:StateOk p x) {e:Nj} (he:ZB p e=0) :
    Runs (Qge (some ⟨p,x⟩) e) fun r=>r.2=Zc p x e/\(Zc p x e=0->r.1=some ⟨p,XC p x e⟩):=by
  have hs:=h.s hp;have hw4:=hp.w4;have ht3:=hp.t3;have hkd:=Qlp he;have hsl:=h.sw;have htl:=h.tr;unfold Qge;by_cases h2:e.Kind=2
  · obtain ⟨a0,a1,a2⟩:=Qrb he h2;have e1:Zc p x e=(bif YI x (Qhc p e).Nn then 17 else 0):=by unfold Zc;rw [if_pos h2]
    have e2:XC p x e=⟨x.Nb.set e.A.toNat e.B,x.Na,x.Nh⟩:=by unfold XC;rw [if_pos h2]
    rw [e1,e2,Qul a1,decide_eq_true h2,cond_true,Qj];show Runs (Eh (idx p.Nb e.A) _) _;rw [Qid a0 a1,Qj,Qoz p hs _ (by simp),Qj];simp only [EM,List.any_nil,EN];cases YI x p.Nb[e.A.toNat].Nn with
    | true=>exact Ef ⟨rfl,fun hh=>by cases hh⟩
    | false =>
      simp only [cond_false];rw [Qqq _ (by show x.Nb.length < _;omega),Qj];show Runs (Eh (idx x.Nb e.A) _) _;rw [Qid a0 (by omega),Qj];exact Ef ⟨rfl,fun _=>rfl⟩
  obtain ⟨a0,a1,a2,a3,a4⟩:=Qxp he h2;have ha:e.A.toNat < x.Na.length:=by omega
  have htm:Zr x e∈x.Na:=by rw [Qpd ha];exact Ea ha
  have hcl:=h.len htm;have hs8:=hp.s8;have hu:=h.un _ htm;have e2:XC p x e=⟨x.Nb,x.Na.set e.A.toNat (trX p (Zr x e) e),x.Nh⟩:=by unfold XC;rw [if_neg h2]
  have hnx:=fun c u=>QOf p x a0 ha (by omega) c u
  rw [e2,decide_eq_false h2,cond_false,Qj];show Runs (Eh (idx x.Na e.A) _) _;rw [Qid a0 ha,Qj,<-Qpd ha];unfold Zc trX;simp only [if_neg h2];generalize Zr x e=t at *
  by_cases h0:e.Kind=0
  · simp only [if_pos h0,decide_eq_true h0,cond_true];rw [Yt,Qj,Qoz p hs _ (by simp),Qj,Yt,Qj,ZL _ (by simp),Qj,Qj];simp only [EM,List.any_nil,EN,Qyd];by_cases hc:t.Nc.length=0
    · simp only [hc,Ev,decide_true,cond_true,ne_eq,not_true_eq_false,if_false,if_true];cases YI x e.B with
      | true=>exact Ef ⟨rfl,fun hh=>by cases hh⟩
      | false =>
        simp only [Em,cond_true,decide_true,Ee,cond_false];rw [hnx,Qj];exact Ef ⟨rfl,fun _=>rfl⟩
    · rw [if_neg hc,decide_eq_false (show ¬ (t.Nc.length:Int)=0 by omega)];exact Ef ⟨rfl,fun hh=>by cases hh⟩
  simp only [if_neg h0,decide_eq_false h0,cond_false];by_cases hc:t.Nc.length=0
  · rw [decide_eq_true (show (t.Nc.length:Int)=0 by omega),if_pos hc];exact Ef ⟨rfl,fun hh=>by cases hh⟩
  rw [decide_eq_false (show ¬ (t.Nc.length:Int)=0 by omega),cond_false,Yt,Qj,if_neg hc];have hu2:1<=t.Nm/\t.Nm<=t.Nc.length:=by
    rcases hu with ⟨h3,_⟩ | h3
    · rw [h3] at hc;exact absurd rfl hc
    · exact h3
  by_cases h1:e.Kind=1
  · simp only [if_pos h1,decide_eq_true h1,cond_true];obtain ⟨b0,b1⟩:=a3 h1;rw [show (⟨p,x⟩:Np).Nw.Ni=p.Ni from rfl,Qid b0 b1,Qj,<-Qtm b1];have hr:Qay p e∈p.Ni:=by rw [Qtm b1];exact Ea b1
    generalize Qay p e=r at *
    have hr2:=hp.r2 r hr;have hr8:=hp.r8 r hr;have hrn:=hp.rn r hr;rw [Qqs (by omega),Qj,show (0:Int)=((0:Nat):Int) from rfl,Xh (show 0 < r.Ng.length by omega),Qj,
      show w64 ((t.Nc.length:Int) - 1)=((t.Nc.length - 1:Nat):Int) by rw [YD (by omega)];omega,Xh (show t.Nc.length - 1 < t.Nc.length by omega),Qj,Yt,Qj,
      Qoz p hs _ (by simp;omega),Qj,Yt,Qj,Qzc hrn hsl (by omega) (by omega),Qj,Yt,Qj,ZL _ (by simp),Qj,QKm (by omega) (by omega),Qfx]
    by_cases h3:r.Ng.head?=t.Nc.getLast?
    · simp only [h3,decide_true,cond_true,Ev,ne_eq,not_true_eq_false,if_false,if_true];cases hb:(r.Ng.drop 1).any (YI x) with
      | true=>exact Ef ⟨rfl,fun hh=>by cases hh⟩
      | false =>
        cases hl:YV p x.Nb r r.Ng with
        | false=>exact Ef ⟨rfl,fun hh=>by cases hh⟩
        | true =>
          simp only [Em,cond_true,Ev,not_true_eq_false,if_false,decide_true,Ee,cond_false];rw [QHa _ _ (by omega) (by simp;omega),Qj,hnx,Qj];exact Ef ⟨rfl,fun _=>rfl⟩
    · simp only [h3,decide_false,cond_false,if_false];exact Ef ⟨rfl,fun hh=>by cases hh⟩
  simp only [if_neg h1,decide_eq_false h1,cond_false];by_cases h3:e.Kind=3
  · simp only [if_pos h3,decide_eq_true h3,cond_true];rw [if_neg (by omega),if_pos (.inl h3),hnx,Qj,YD (by omega)];by_cases h5:t.Nm < t.Nc.length
    · rw [if_pos h5,decide_eq_true h5];exact Ef ⟨rfl,fun _=>rfl⟩
    · rw [if_neg h5,decide_eq_false h5];exact Ef ⟨rfl,fun hh=>by cases hh⟩
  simp only [if_neg h3,decide_eq_false h3,cond_false];by_cases h4:e.Kind=4
  · simp only [if_pos h4,decide_eq_true h4,cond_true];rw [Qqs (by omega),Qj,hnx,Qj,Yt,Qj,YD (by omega)];by_cases h5:1 < t.Nm
    · rw [if_pos h5,decide_eq_true h5];exact Ef ⟨rfl,fun _=>rfl⟩
    · rw [if_neg h5,decide_eq_false h5];exact Ef ⟨rfl,fun hh=>by cases hh⟩
  simp only [if_neg h4,decide_eq_false h4,cond_false];by_cases h5:e.Kind=5
  · simp only [if_pos h5,decide_eq_true h5,cond_true];rw [if_pos (.inr h5),show w64 ((t.Nc.length:Int) - 1)=((t.Nc.length - 1:Nat):Int) by rw [YD (by omega)];omega,Qee (by omega),Qj,hnx,Qj];by_cases h6:t.Nm < t.Nc.length
    · rw [if_pos h6,decide_eq_true h6];exact Ef ⟨rfl,fun _=>rfl⟩
    · rw [if_neg h6,decide_eq_false h6];exact Ef ⟨rfl,fun hh=>by cases hh⟩
  simp only [if_neg h5,decide_eq_false h5,cond_false];rw [if_neg (by omega),hnx,Qj,Yt,Qj];by_cases h6:t.Nc.length=1
  · rw [if_pos h6,decide_eq_true (by omega)];exact Ef ⟨rfl,fun _=>rfl⟩
  · rw [if_neg h6,decide_eq_false (by omega)];exact Ef ⟨rfl,fun hh=>by cases hh⟩
/-! ### The beginning, copies -/
theorem QVz (p:Nf) {x:Nd} (h:StateS x):Qit (some ⟨p,x⟩)=some x:=by
 have h1:=h.sw;have h2:=h.tr;unfold Qit;rw [Qj];show Eh (Eh (Qdk x.Nb) _) _=_;rw [Qqq _ (by omega),Qj,Qj];simp only [Qj];have hl:=Qgi (step:=Qis ⟨p,x⟩) (o:=x.Na) (fun k=>((k:Int),x.Na.take k)) x.Na.length (fun k hk=>by
  unfold Qis;show (bif decide ((k:Int) < (x.Na.length:Int)) then Eh (idx x.Na (k:Int)) _ else _)=_;rw [XA hk,cond_true,Xh hk,Qj,Qqq _ (by have:=h.ch _ (Ea hk);omega),Qj,Zm (by simp;omega),Qj,Xj k (by omega)];show some (Sum.inl (_,x.Na.take k++[x.Na[k]]))=_;have:=Qex x.Na id k hk;simp only [List.map_id,id_eq] at this;rw [this]) (by
  unfold Qis;show (bif decide ((x.Na.length:Int) < (x.Na.length:Int)) then _ else _)=_;rw [XE,Eu];rfl)
 have hl2:loop (Qis ⟨p,x⟩) (0,([]:List Nl))=some x.Na:=hl;rw [hl2];rfl
end Go.Gw

end
section
set_option maxRecDepth 4096
namespace Go.Gw
open Go
attribute [local irreducible] loop
def QEu:Nd:=⟨[],[],0⟩
def evE (p:Nf) (x:Nd) (e:Nj):Int:=if ZB p e=0 then Zc p x e else ZB p e
def evs (p:Nf):Nd->Nat->List Nj->Nd⊕(Nat×Int)
 | x,_,[]=>.inl x
 | x,k,e::l=>if evE p x e=0 then evs p (XC p x e) (k+1) l else .inr (k,evE p x e)
end Go.Gw

end
section
set_option maxRecDepth 4096
namespace Go.Gw
open Go
attribute [local irreducible] loop
theorem Qsm {σ β ρ:Type} {step:σ->Option (σ⊕ρ)} (n M:Nat) (f:Nat->List β) (S:Nat->List β->σ) (o:List β->ρ) (acc0:List β) (hf:∀ k,k < n->(f k).length<=M)
  (hs:∀ k,k < n->∀ acc:List β,acc.length<=acc0.length+k * M->step (S k acc)=some (.inl (S (k+1) (acc++f k)))) (he:∀ acc,step (S n acc)=some (.inr (o acc))) :
  loop step (S 0 acc0)=some (o (acc0++(Ed n).flatMap f))/\(acc0++(Ed n).flatMap f).length<=acc0.length+n * M:=by
 have key:∀ k,k<=n->(acc0++(Ed k).flatMap f).length<=acc0.length+k * M/\loop step (S 0 acc0)=loop step (S k (acc0++(Ed k).flatMap f)):=by
  intro k
  induction k with
  | zero=>intro _;exact ⟨by simp,by simp⟩
  | succ k ih =>
   intro hk;obtain ⟨h1,h2⟩:=ih (by omega);have e:acc0++(Ed (k+1)).flatMap f=acc0++(Ed k).flatMap f++f k:=by
    rw [List.range_succ,List.flatMap_append,List.append_assoc];simp
   refine ⟨?_,?_⟩
   ·rw [e,Eo];have:=hf k (by omega);rw [Nat.succ_mul];omega
   ·rw [h2,JP (hs k (by omega) _ h1),e]
 obtain ⟨h1,h2⟩:=key n (Nat.le_refl n);exact ⟨by rw [h2];exact Jv (he _),h1⟩
def Zw (p:Nf) (k:Nat):Nat:=if k=2 then p.Nb.length else p.Na.length
def YY (p:Nf) (k:Nat):Nat:=if k=0 then p.Ng.length else if k=1 then p.Ni.length else if k=2 then 2 else 1
def Ys (k a b:Nat):Nj:=⟨(k:Int),(a:Int),(b:Int)⟩
def ZW (p:Nf):List Nj:=(Ed 7).flatMap fun k=>(Ed (Zw p k)).flatMap fun a=>(Ed (YY p k)).flatMap fun b=>[Ys k a b]
def Yh (p:Nf) (x:Nd):List Nj:=(ZW p).filter fun e=>decide (Zc p x e=0)
theorem Qxn {p:Nf} {k a b:Nat} (hk:k < 7):ZB p (Ys k a b)=0↔a < Zw p k/\b < YY p k:=by
 unfold ZB Ys Zw YY Qhd Zt XQ Qgs Yb;simp only;rw [if_neg (by omega)];by_cases h2:k=2
 ·subst h2;simp only [Int.cast_ofNat_Int,if_true,show ¬ (2=0) by omega,show ¬ (2=1) by omega,if_false];by_cases ha:a < p.Nb.length
  ·rw [decide_eq_true (show (0:Int)<=a by omega),decide_eq_true (show (a:Int)<=(p.Nb.length:Int) - 1 by omega)];by_cases hb:b < 2
   ·rw [show (decide ((b:Int)=0)||decide ((b:Int)=1))=true by simp only [Eq_,decide_eq_true_eq];omega];simp [ha,hb]
   ·rw [decide_eq_false (show ¬ (b:Int)=0 by omega),decide_eq_false (show ¬ (b:Int)=1 by omega)];simp [hb]
  ·rw [decide_eq_false (show ¬ (a:Int)<=(p.Nb.length:Int) - 1 by omega),Er];simp [ha]
 ·rw [if_neg (show ¬ (k:Int)=2 by omega),if_neg h2];by_cases ha:a < p.Na.length
  ·rw [decide_eq_true (show (0:Int)<=a by omega),decide_eq_true (show (a:Int)<=(p.Na.length:Int) - 1 by omega)];simp only [Bool.and_self,cond_true,ha,true_and,if_neg h2];by_cases h0:k=0
   ·rw [if_pos (show (k:Int)=0 by omega),if_pos h0];by_cases hb:b < p.Ng.length
    ·rw [decide_eq_true (show (0:Int)<=b by omega),decide_eq_true (show (b:Int)<=(p.Ng.length:Int) - 1 by omega)];simp [hb]
    ·rw [decide_eq_false (show ¬ (b:Int)<=(p.Ng.length:Int) - 1 by omega),Er];simp [hb]
   ·rw [if_neg (show ¬ (k:Int)=0 by omega),if_neg h0];by_cases h1:k=1
    ·rw [if_pos (show (k:Int)=1 by omega),if_pos h1];by_cases hb:b < p.Ni.length
     ·rw [decide_eq_true (show (0:Int)<=b by omega),decide_eq_true (show (b:Int)<=(p.Ni.length:Int) - 1 by omega)];simp [hb]
     ·rw [decide_eq_false (show ¬ (b:Int)<=(p.Ni.length:Int) - 1 by omega),Er];simp [hb]
    ·rw [if_neg (show ¬ (k:Int)=1 by omega),if_neg h1];by_cases hb:b=0
     ·subst hb;simp
     ·rw [if_neg (by omega)];constructor
      ·intro h;cases h
      ·intro h;omega
  ·rw [decide_eq_false (show ¬ (a:Int)<=(p.Na.length:Int) - 1 by omega),Er];simp [ha]
theorem Qra {p:Nf} {e:Nj} (h:e∈ZW p):ZB p e=0:=by
 unfold ZW at h;simp only [List.mem_flatMap,EH,En] at h;obtain ⟨k,hk,a,ha,b,hb,rfl⟩:=h;exact (Qxn hk).2 ⟨ha,hb⟩
def Y6 (p:Nf) (x:Nd) (l:List Nj):List Nr:=(l.filter fun e=>decide (Zc p x e=0)).map fun e=>Nr.mk e (some ⟨p,XC p x e⟩)
theorem QCy {p:Nf} {x:Nd} {f:Nat->List Nj}:∀ (l:List Nat),Y6 p x (l.flatMap f)=l.flatMap fun k=>Y6 p x (f k)
 | []=>rfl
 | k::l=>by
  have:=QCy (p:=p) (x:=x) (f:=f) l;unfold Y6 at this ⊢;rw [List.flatMap_cons,List.filter_append,List.map_append,this,List.flatMap_cons]
theorem QUt {p:Nf} {x:Nd} {e:Nj}:(Y6 p x [e]).length<=1:=by
 unfold Y6;rw [List.length_map];exact List.length_filter_le _ _
theorem QRl {p:Nf} (hp:PlantOk p) {x:Nd} (h:StateOk p x):Qgg (some ⟨p,x⟩)=some (Y6 p x (ZW p)):=by
  have hs8:=hp.s8;have ht3:=hp.t3;have hw4:=hp.w4;have hr10:=hp.r10;have hb:∀ k,YY p k<=10:=fun k=>by unfold YY;split<;>(try split)<;>(try split)<;>omega
  have ha:∀ k,Zw p k<=4:=fun k=>by unfold Zw;split<;>omega
  -- the innermost loop
  have l0:∀ k:Nat,k < 7->∀ a:Nat,a < Zw p k->∀ acc:List Nr,acc.length<=1000->loop (Qip (some ⟨p,x⟩) (k:Int) ((YY p k:Nat):Int) (a:Int)) (0,acc)=some (.inr (acc++(Ed (YY p k)).flatMap fun b=>Y6 p x [Ys k a b]))/\(acc++(Ed (YY p k)).flatMap fun b=>Y6 p x [Ys k a b]).length<=acc.length+YY p k * 1 :=
    fun k hk a hka acc hacc=>Qsm (step:=Qip (some ⟨p,x⟩) (k:Int) ((YY p k:Nat):Int) (a:Int)) (YY p k) 1 (fun b=>Y6 p x [Ys k a b]) (fun b acc=>((b:Int),acc)) (fun acc=>.inr acc) acc (fun _ _=>QUt) (fun b hbk acc' hl=>by
      have hb':=hb k;have he:ZB p (Ys k a b)=0:=(Qxn hk).2 ⟨hka,hbk⟩;obtain ⟨r,hr,h1,h2⟩:=Qwd hp h he;unfold Qip;simp only [XA hbk,cond_true];rw [show (Nj.mk (k:Int) (a:Int) (b:Int))=Ys k a b from rfl,hr,Qj,h1];by_cases h3:Zc p x (Ys k a b)=0
      · rw [decide_eq_true h3,cond_true,Zm (by simp;omega),Qj,h2 h3,Xj b (by omega)];simp [Y6,h3]
      · rw [decide_eq_false h3,cond_false,Xj b (by omega)];simp [Y6,h3]) (fun acc'=>by
      unfold Qip;simp only [XE];rfl)
  have l1:∀ k:Nat,k < 7->∀ acc:List Nr,acc.length<=500->loop (Qiq (some ⟨p,x⟩) (k:Int) ((Zw p k:Nat):Int) ((YY p k:Nat):Int)) (0,acc)=some (.inr (acc++(Ed (Zw p k)).flatMap fun a=>(Ed (YY p k)).flatMap fun b=>Y6 p x [Ys k a b]))/\(acc++(Ed (Zw p k)).flatMap fun a=>(Ed (YY p k)).flatMap fun b=>Y6 p x [Ys k a b]).length<=acc.length+Zw p k * 10 :=
    fun k hk acc hacc=>Qsm (step:=Qiq (some ⟨p,x⟩) (k:Int) ((Zw p k:Nat):Int) ((YY p k:Nat):Int)) (Zw p k) 10 (fun a=>(Ed (YY p k)).flatMap fun b=>Y6 p x [Ys k a b]) (fun a acc=>((a:Int),acc)) (fun acc=>.inr acc) acc (fun a hka=>by
      have:=(l0 k hk a hka [] (by simp)).2;have:=hb k;simp only [Ey,List.length_nil] at *
      omega) (fun a hka acc' hl=>by
      have ha':=ha k;have hl2:a * 10<=40:=by omega
      unfold Qiq;simp only [XA hka,cond_true];rw [(l0 k hk a hka acc' (by omega)).1,Qj,Xj a (by omega)];rfl) (fun acc'=>by
      unfold Qiq;simp only [XE];rfl)
  have l2 := (Qsm (step := Qmt ⟨p, x⟩ (some ⟨p, x⟩)) (ρ := (List Nr) ⊕ (List Nr)) 7 40 (fun k => (Ed (Zw p k)).flatMap fun a => (Ed (YY p k)).flatMap fun b => Y6 p x [Ys k a b]) (fun k acc => ((k : Int), acc)) (fun acc => .inr acc) [] (fun k hk => by
      have:=(l1 k hk [] (by simp)).2;have:=ha k;simp only [Ey,List.length_nil] at *
      omega) (fun k hk acc hl=>by
      have e:(bif decide ((k:Int)=0) then some (((p.Na.length:Nat):Int),((p.Ng.length:Nat):Int)) else bif decide ((k:Int)=1) then some (((p.Na.length:Nat):Int),((p.Ni.length:Nat):Int)) else bif decide ((k:Int)=2) then some (((p.Nb.length:Nat):Int),2) else some (((p.Na.length:Nat):Int),1))=some (((Zw p k:Nat):Int),((YY p k:Nat):Int)):=by
        unfold Zw YY;by_cases h0:k=0
        · subst h0;rfl
        by_cases h1:k=1
        · subst h1;rfl
        by_cases h2:k=2
        · subst h2;rfl
        rw [decide_eq_false (by omega),decide_eq_false (by omega),decide_eq_false (by omega),if_neg h2,if_neg h0,if_neg h1,if_neg h2];rfl
      unfold Qmt;simp only [show decide ((k:Int) < 7)=true by rw [decide_eq_true_eq];omega,cond_true];show Eh (bif decide ((k:Int)=0) then some (((p.Na.length:Nat):Int),((p.Ng.length:Nat):Int)) else bif decide ((k:Int)=1) then some (((p.Na.length:Nat):Int),((p.Ni.length:Nat):Int)) else bif decide ((k:Int)=2) then some (((p.Nb.length:Nat):Int),2) else some (((p.Na.length:Nat):Int),1)) _=_;rw [e,Qj];simp only;rw [(l1 k hk acc (by simp at hl;omega)).1,Qj,Xj k (by omega)];rfl) (fun acc=>by rfl)).1
  unfold Qgg;rw [Qj];have l3:loop (Qmt ⟨p,x⟩ (some ⟨p,x⟩)) (0,([]:List Nr))=_:=l2;rw [l3,Qj];simp only [Xp,Ey];unfold ZW;simp only [QCy]
end Go.Gw

end
section
set_option maxRecDepth 4096
namespace Go.Gw
open Go
attribute [local irreducible] loop
end Go.Gw

end
section
set_option maxRecDepth 4096
namespace Go.Gw
open Go
attribute [local irreducible] loop
end Go.Gw

end
section
set_option maxRecDepth 4096
namespace Go.Gw
open Go
attribute [local irreducible] loop
theorem Qic (l:List Int) (v:Int) (hl:l.length < 1000000):Qcr l v=some (decide (v∈l)):=by
 unfold Qcr;rw [Zf l (fun x=>decide (x=v)) (fun _ _=>true),Qj]
 ·rcases Jl (p:=fun x=>decide (x=v)) (res:=fun _ _=>true) l 0 with ⟨k1,k2⟩ | ⟨j,x,k1,k2,k3⟩
  ·rw [k1,<-Qwa,k2];rfl
  ·rw [k1,<-Qwa,k3];rfl
 ·intro k hk;unfold Qqe;rw [XA hk,Xh hk,Xj k (by omega)];rfl
 ·unfold Qqe;rw [XE];rfl
theorem QQq (l:List ByteArray) (s:ByteArray) (hl:l.length < 1000000):Qob l s=some (Qbj (fun x=>decide (x=s)) l):=by
 unfold Qob Qbj;rw [Zf l (fun x=>decide (x=s)) (fun k _=>(k:Int)),Qj,Qgz]
 ·intro k hk;unfold Qti;rw [XA hk,Xh hk,Xj k (by omega)];rfl
 ·unfold Qti;rw [XE];rfl
theorem Qzx (l:List ByteArray) (s:ByteArray):(l.any fun x=>decide (x=s))=YQ l s:=by
 unfold YQ;congr 1;funext x;exact decide_eq_decide.2 eq_comm
theorem Qzy {α:Type} (f:α->ByteArray) (l:List α) (s:ByteArray):(l.any fun x=>decide (f x=s))=YQ (l.map f) s:=by
 rw [<-Qzx,List.any_map];rfl
theorem QBr (l:List ByteArray) (hl:l.length < 1000):Qjt l=some (match Xz (Zo l) l.length with | some i=>((i:Int),Zo l i) | none=>(0,0)):=by
 unfold Qjt;have key:loop (Qjs l) 0=_:=Qan (step:=Qjs l) (fun k=>(k:Int)) l.length (Zo l) (fun i e=>((i:Int),e)) () (fun k hk _=>by
  have hs:Zo l k=ZZ l[k] (l.take k):=Jg _ _ _ hk;rw [hs];unfold Qjs ZZ;rw [XA hk,cond_true,Xh hk,Qj,Qqc,Qj];cases Qav l[k]
  ·rfl
  ·simp only [Ee,cond_false,Qj,cond_true];rw [Qee (by omega),Qj,QQq _ _ (by simp;omega),Qj,Qrn,Qzx,Xj k (by omega)];cases YQ (l.take k) l[k]<;>rfl) (fun _=>by
  unfold Qjs;rw [XE];rfl)
 rw [key,Qj];cases Xz (Zo l) l.length<;>rfl
theorem Qud {α ρ:Type} {step:Int->Option (Int⊕(ρ⊕Unit))} (xs:List α) (n:Nat) (hn:n<=xs.length) (p:α->Bool) (c:ρ)
  (hs:∀ k (hk:k < xs.length),k < n->step (k:Int)=(bif p xs[k] then some (.inr (.inl c)) else some (.inl ((k+1:Nat):Int))))
  (he:step (n:Int)=some (.inr (.inr ()))):loop step 0=some (if (xs.take n).any p=true then .inl c else .inr ()):=by
 have hlen:(xs.take n).length=n:=by simp;omega
 rw [Zf (xs.take n) p (fun _ _=>c) (fun k hk=>by
  rw [hlen] at hk;rw [hs k (by omega) hk];simp only [List.getElem_take]) (by rw [hlen];exact he)]
 rcases Jl (p:=p) (res:=fun _ _=>c) (xs.take n) 0 with ⟨k1,k2⟩ | ⟨j,x,k1,k2,k3⟩
 ·rw [k1,k2];rfl
 ·rw [k1,k3];rfl
theorem QRy {p:Nf} (h:PlantS p) (k:Nat) (hk:k < p.Nb.length):Qoi p k=some (Z3 p k):=by
 have h1:=h.sw;have h2:=h.se;have hs:Z3 p k=swE p k p.Nb[k]:=Jg _ _ _ hk;have l0:loop (Qog p.Nb[k] (k:Int) p) 0=some (if (p.Nb.take k).any (fun o=>decide (o.Name=p.Nb[k].Name))=true then .inl 5 else .inr ()) :=
  Qud p.Nb k (by omega) _ _ (fun j hj hjk=>by
   unfold Qog;rw [XA hjk,cond_true,Xh hj,Qj,Xj j (by omega)]) (by
   unfold Qog;rw [XE];rfl)
 have l1:loop (Qoh p.Nb[k] (k:Int) p) 0=some (if (p.Nb.take k).any (fun o=>decide (o.Nn=p.Nb[k].Nn))=true then .inl 26 else .inr ()) :=
  Qud p.Nb k (by omega) _ _ (fun j hj hjk=>by
   unfold Qoh;rw [XA hjk,cond_true,Xh hj,Qj,Xj j (by omega)]) (by
   unfold Qoh;rw [XE];rfl)
 rw [hs];unfold Qoi swE swX ZZ;rw [Xh hk,Qj,Qqc,Qj,l0,l1,Qzy (fun o:Nt=>o.Name),show JL p.Nb[k].Nn 0 (w64 ((p.Ng.length:Int) - 1))=some (XQ p p.Nb[k].Nn) by rw [Qec,YD (by omega)];rfl];cases Qav p.Nb[k].Name
 ·rfl
 ·cases YQ ((p.Nb.take k).map (·.Name)) p.Nb[k].Name
  ·cases XQ p p.Nb[k].Nn
   ·rfl
   ·cases (p.Nb.take k).any (fun o=>decide (o.Nn=p.Nb[k].Nn))<;>rfl
  ·rfl
theorem QBp (n:Int):JL n 0 1=some (Yb n):=by
 rw [Qec];congr 1;unfold Yb;rw [EF];simp only [El,Eq_,decide_eq_true_eq];omega
theorem QRw {p:Nf} (h:PlantS p) (k:Nat) (hk:k < p.Ni.length):Qof p k=some (Z1 p k):=by
 have h1:=h.ro;have h2:=h.se;have h3:=h.sw;obtain ⟨_,hr,hn⟩:=h.rn _ (Ea hk);have hs:Z1 p k=rtE p k p.Ni[k]:=Jg _ _ _ hk;have l0:loop (Qoc p.Ni[k] p (k:Int)) 0=some (if (p.Ni.take k).any (fun o=>decide (o.Name=p.Ni[k].Name))=true then .inl 5 else .inr ()) :=
  Qud p.Ni k (by omega) _ _ (fun j hj hjk=>by
   unfold Qoc;rw [XA hjk,cond_true,Xh hj,Qj,Xj j (by omega)]) (by
   unfold Qoc;rw [XE];rfl)
 rw [hs];unfold Qof rtE;rw [Xh hk,Qj,Qqc,Qj,l0,Qzy (fun o:Ns=>o.Name)];generalize p.Ni[k]=r at hr hn ⊢;have l1:loop (Qod r p) 0=some (match Xz (JS p r) r.Ng.length with | some i=>.inl (JS p r i) | none=>.inr ()) :=
  Qan (fun k=>(k:Int)) r.Ng.length (JS p r) (fun _ e=>e) () (fun k hk _=>by
   have hs:JS p r k=rsE p r k r.Ng[k]:=Jg _ _ _ hk;rw [hs];unfold Qod rsE;rw [XA hk,cond_true,Xh hk,Qj,show JL r.Ng[k] 0 (w64 ((p.Ng.length:Int) - 1))=some (XQ p r.Ng[k]) by rw [Qec,YD (by omega)];rfl,Qj,Qee (by omega),Qj,Qj,Qic _ _ (by simp;omega),Qj,Xj k (by omega)];cases XQ p r.Ng[k]<;>cases decide (r.Ng[k]∈r.Ng.take k)<;>rfl) (fun _=>by
   unfold Qod;rw [XE];rfl)
 have l2:r.Nu.length=p.Nb.length->loop (Qoe r p) 0=some (Ym (Qaw r) (fun _ _=>(2:Int)) 0 (r.Nu.zip p.Nb)):=fun he =>
  Zf (r.Nu.zip p.Nb) _ _ (fun k hk=>by
   rw [Qpr he] at hk;unfold Qoe;rw [XA hk,cond_true,Xh (show k < p.Nb.length by omega),Qj,Qic _ _ (by omega),Qj,Xh hk,Xj k (by omega)];simp only [Ej,Qaw,Qj,QBp];cases decide (p.Nb[k].Nn∈r.Ng)<;>rfl) (by
   rw [Qpr he];unfold Qoe;rw [XE];rfl)
 unfold ZZ;cases Qav r.Name
 ·rfl
 ·cases YQ ((p.Ni.take k).map (·.Name)) r.Name
  ·simp only [Ee,cond_false,cond_true,Qj,Xp,if_true,Bool.false_eq_true,if_false];unfold rtX;by_cases h4:r.Ng.length < 2
   ·rw [if_pos h4,decide_eq_true (show (r.Ng.length:Int) < 2 by omega)];rfl
   rw [if_neg h4,decide_eq_false (show ¬ (r.Ng.length:Int) < 2 by omega)];by_cases h5:p.Ng.length < r.Ng.length
   ·rw [if_pos h5,decide_eq_true (show (p.Ng.length:Int) < r.Ng.length by omega)];rfl
   rw [if_neg h5,decide_eq_false (show ¬ (p.Ng.length:Int) < r.Ng.length by omega),l1];simp only [cond_false,Qj];cases Xz (JS p r) r.Ng.length with
   | some i=>rfl
   | none =>
    simp only [Xp];by_cases h6:r.Nu.length=p.Nb.length
    ·rw [if_pos h6,decide_eq_true (show (r.Nu.length:Int)=p.Nb.length by omega),Ee,cond_false,l2 h6,Qj];rcases Jl (p:=Qaw r) (res:=fun _ _=>(2:Int)) (r.Nu.zip p.Nb) 0 with ⟨k1,k2⟩ | ⟨j,x,k1,k2,k3⟩
     ·rw [k1,k2];rfl
     ·rw [k1,k3];rfl
    ·rw [if_neg h6,decide_eq_false (show ¬ (r.Nu.length:Int)=p.Nb.length by omega)];rfl
  ·rfl
theorem QRs {p:Nf} (h:PlantS p):Qnu p=some (Jy p):=by
  have h3:=h.sw;have h4:=h.ro;have l0:loop (Qns p) 0=some (match Xz (Z3 p) p.Nb.length with | some i=>.inl (Nq.mk 3 i,Z3 p i) | none=>.inr ()) :=
    Qan (fun k=>(k:Int)) p.Nb.length (Z3 p) (fun i e=>(Nq.mk 3 i,e)) () (fun k hk _=>by
      unfold Qns;rw [XA hk,cond_true,QRy h k hk,Qj,Xj k (by omega)];by_cases h1:Z3 p k=0
      · rw [if_pos h1,decide_eq_true h1];rfl
      · rw [if_neg h1,decide_eq_false h1];rfl) (fun _=>by
      unfold Qns;rw [XE];rfl)
  have l1:loop (Qnt p) 0=some (match Xz (Z1 p) p.Ni.length with | some i=>.inl (Nq.mk 4 i,Z1 p i) | none=>.inr ()) :=
    Qan (fun k=>(k:Int)) p.Ni.length (Z1 p) (fun i e=>(Nq.mk 4 i,e)) () (fun k hk _=>by
      unfold Qnt;rw [XA hk,cond_true,QRw h k hk,Qj,Xj k (by omega)];by_cases h1:Z1 p k=0
      · rw [if_pos h1,decide_eq_true h1];rfl
      · rw [if_neg h1,decide_eq_false h1];rfl) (fun _=>by
      unfold Qnt;rw [XE];rfl)
  unfold Qnu Jy;by_cases h1:p.Ng.length=0\/p.Na.length=0
  · rw [if_pos h1, show (decide ((p.Ng.length : Int) = 0) || decide ((p.Na.length : Int) = 0)) = true by
      simp only [Eq_,decide_eq_true_eq];omega]
    rfl
  rw [if_neg h1,decide_eq_false (show ¬ (p.Ng.length:Int)=0 by omega),decide_eq_false (show ¬ (p.Na.length:Int)=0 by omega)];simp only [Bool.or_self,cond_false];by_cases h2:8 < p.Ng.length\/3 < p.Na.length\/4 < p.Nb.length\/10 < p.Ni.length
  · rw [if_pos h2, show (((decide (8 < (p.Ng.length : Int)) || decide (3 < (p.Na.length : Int))) || decide (4 < (p.Nb.length : Int))) || decide (10 < (p.Ni.length : Int))) = true by
      simp only [Eq_,decide_eq_true_eq];omega]
    rfl
  rw [if_neg h2, show (((decide (8 < (p.Ng.length : Int)) || decide (3 < (p.Na.length : Int))) || decide (4 < (p.Nb.length : Int))) || decide (10 < (p.Ni.length : Int))) = false by
      rw [decide_eq_false (by omega),decide_eq_false (by omega),decide_eq_false (by omega),decide_eq_false (by omega)];rfl]
  rw [cond_false,QBr _ h.se,QBr _ h.tr,l0,l1];have hz:∀ {f:Nat->Int} {n i:Nat},Xz f n=some i->f i≠0:=fun hf=>(Qak hf).2.1
  cases h3:Xz (Zo p.Ng) p.Ng.length with
  | some i=>simp [hz h3]
  | none =>
    simp only [Qj,decide_true,Ee,cond_false];cases h4:Xz (Zo p.Na) p.Na.length with
    | some i=>simp [hz h4]
    | none =>
      simp only [decide_true,Ee,cond_false];cases h5:Xz (Z3 p) p.Nb.length with
      | some i=>rfl
      | none =>
        simp only [Xp];cases h6:Xz (Z1 p) p.Ni.length with
        | some i=>rfl
        | none=>rfl
theorem QRv {p:Nf} (h:PlantS p):Qnv p=some (Jy p).2:=by
 unfold Qnv;rw [QRs h];rfl
/-! ### Copies -/
theorem Qlj (l:List Int) (h:l.length < 1000000):Qcq l=some l:=by
 unfold Qcq;rw [Zm (by simp;omega)];rfl
theorem Qwz (l:List ByteArray) (h:l.length < 1000000):Qhp l=some l:=by
 unfold Qhp;rw [Zm (by simp;omega)];rfl
theorem Qey {α:Type} (l:List α) (k:Nat) (hk:k < l.length):l.take k++[l[k]]=l.take (k+1):=by
 have:=Qex l id k hk;simp
theorem Qwy {p:Nf} (h:PlantS p):Qcf p=some p:=by
 have h1:=h.se;have h2:=h.tr;have h3:=h.sw;have h4:=h.ro;have hl:=Qgi (step:=Qjn p) (o:=p.Ni) (fun k=>((k:Int),p.Ni.take k)) p.Ni.length (fun k hk=>by
  obtain ⟨_,hr,hn⟩:=h.rn _ (Ea hk);unfold Qjn;simp only [XA hk,cond_true,Xh hk,Qj];rw [Qlj _ (by omega),Qj,Qlj _ (by omega),Qj,Zm (by simp;omega),Qj,Xj k (by omega),Qey _ _ hk]) (by
  unfold Qjn;simp only [XE,Eu];rfl)
 have hl2:loop (Qjn p) (0,([]:List Ns))=some p.Ni:=hl;unfold Qcf;rw [Qwz _ (by omega),Qj,Qwz _ (by omega),Qj,Zm (by simp;omega),Qj,Qj];simp only [Ey];rw [hl2];rfl
theorem Qqr {x:Nd} (h:StateS x):Qbm x=some x:=by
 have h1:=h.sw;have h2:=h.tr;have hl:=Qgi (step:=Qjo x) (o:=x.Na) (fun k=>((k:Int),x.Na.take k)) x.Na.length (fun k hk=>by
  unfold Qjo;simp only [XA hk,cond_true,Xh hk,Qj];rw [Qlj _ (by have:=h.ch _ (Ea hk);omega),Qj,Zm (by simp;omega),Qj,Xj k (by omega)];show some (Sum.inl (_,x.Na.take k++[x.Na[k]]))=_;rw [Qey _ _ hk]) (by
  unfold Qjo;simp only [XE,Eu];rfl)
 have hl2:loop (Qjo x) (0,([]:List Nl))=some x.Na:=hl;unfold Qbm;rw [Qlj _ (by omega),Qj,Qj];simp only;rw [hl2];rfl
theorem QJs (p:Nf):Qie p=some true/\PlantS p/\(p.Ng.length<=4\/8 < p.Ng.length)\/Qie p=some false:=by
 unfold Qie;cases hb:(((((decide (4 < (p.Ng.length:Int))&&decide ((p.Ng.length:Int)<=8))||decide (10 < (p.Ng.length:Int)))||decide (5 < (p.Na.length:Int)))||decide (6 < (p.Nb.length:Int)))||decide (12 < (p.Ni.length:Int))) with
 | true=>exact .inr rfl
 | false =>
  rw [cond_false];simp only [EL,EI,decide_eq_false_iff_not] at hb;have h1:p.Ng.length < 1000:=by omega
  have h2:p.Na.length < 1000:=by omega
  have h3:p.Nb.length < 1000:=by omega
  have h4:p.Ni.length < 1000:=by omega
  have l0:loop (Qlz p) 0=some (Ym (fun s:ByteArray=>decide (20 < (s.size:Int))) (fun _ _=>false) 0 p.Ng):=Zf p.Ng _ _ (fun k hk=>by
   unfold Qlz;rw [XA hk,cond_true,Xh hk,Qj,Xj k (by omega)]) (by unfold Qlz;rw [XE];rfl)
  have l1:loop (Qma p) 0=some (Ym (fun s:ByteArray=>decide (20 < (s.size:Int))) (fun _ _=>false) 0 p.Na):=Zf p.Na _ _ (fun k hk=>by
   unfold Qma;rw [XA hk,cond_true,Xh hk,Qj,Xj k (by omega)]) (by unfold Qma;rw [XE];rfl)
  have l2:loop (Qmb p) 0=some (Ym (fun s:Nt=>decide (20 < (s.Name.size:Int))) (fun _ _=>false) 0 p.Nb):=Zf p.Nb _ _ (fun k hk=>by
   unfold Qmb;rw [XA hk,cond_true,Xh hk,Qj,Xj k (by omega)]) (by unfold Qmb;rw [XE];rfl)
  have l3:loop (Qmc p) 0=some (Ym (fun r:Ns=>decide (20 < (r.Name.size:Int))||(decide (10 < (r.Ng.length:Int))||decide (6 < (r.Nu.length:Int)))) (fun _ _=>false) 0 p.Ni):=Zf p.Ni _ _ (fun k hk=>by
   unfold Qmc;simp only [XA hk,cond_true,Xh hk,Qj,Xj k (show k < 4611686018427387904 by omega)];cases decide (20 < (p.Ni[k].Name.size:Int))<;>cases decide (10 < (p.Ni[k].Ng.length:Int))<;>cases decide (6 < (p.Ni[k].Nu.length:Int))<;>rfl) (by unfold Qmc;rw [XE];rfl)
  rw [l0,l1,l2,l3];simp only [Qj];rcases Jl (p:=fun s:ByteArray=>decide (20 < (s.size:Int))) (res:=fun _ _=>false) p.Ng 0 with ⟨k1,k2⟩ | ⟨j,x,k1,k2,k3⟩
  ·rw [k1];rcases Jl (p:=fun s:ByteArray=>decide (20 < (s.size:Int))) (res:=fun _ _=>false) p.Na 0 with ⟨m1,m2⟩ | ⟨j,x,m1,m2,m3⟩
   ·rw [m1];rcases Jl (p:=fun s:Nt=>decide (20 < (s.Name.size:Int))) (res:=fun _ _=>false) p.Nb 0 with ⟨n1,n2⟩ | ⟨j,x,n1,n2,n3⟩
    ·rw [n1];rcases Jl (p:=fun r:Ns=>decide (20 < (r.Name.size:Int))||(decide (10 < (r.Ng.length:Int))||decide (6 < (r.Nu.length:Int)))) (res:=fun _ _=>false) p.Ni 0 with ⟨o1,o2⟩ | ⟨j,x,o1,o2,o3⟩
     ·rw [o1];rw [Ei] at k2 m2 n2 o2;refine .inl ⟨rfl,⟨h1,h2,h3,h4,fun s hs=>?_,fun s hs=>?_,fun s hs=>?_,fun r hr=>?_⟩,by omega⟩
      ·have:=k2 s hs;simp at this;omega
      ·have:=m2 s hs;simp at this;omega
      ·have:=n2 s hs;simp at this;omega
      ·have:=o2 r hr;simp at this;omega
     ·rw [o1];exact .inr rfl
    ·rw [n1];exact .inr rfl
   ·rw [m1];exact .inr rfl
  ·rw [k1];exact .inr rfl
theorem QJt (x:Nd):Qif x=some true/\StateS x\/Qif x=some false:=by
 unfold Qif;cases hb:(decide (6 < (x.Nb.length:Int))||decide (5 < (x.Na.length:Int))) with
 | true=>exact .inr rfl
 | false =>
  rw [cond_false];simp only [EL,decide_eq_false_iff_not] at hb;have l0:loop (Qmd x) 0=some (Ym (fun t:Nl=>decide (10 < (t.Nc.length:Int))) (fun _ _=>false) 0 x.Na):=Zf x.Na _ _ (fun k hk=>by
   unfold Qmd;rw [XA hk,cond_true,Xh hk,Qj,Xj k (by omega)]) (by unfold Qmd;rw [XE];rfl)
  rw [l0,Qj];rcases Jl (p:=fun t:Nl=>decide (10 < (t.Nc.length:Int))) (res:=fun _ _=>false) x.Na 0 with ⟨k1,k2⟩ | ⟨j,y,k1,k2,k3⟩
  ·rw [k1];rw [Ei] at k2;refine .inl ⟨rfl,by omega,by omega,fun t ht=>?_⟩;have:=k2 t ht;simp at this;omega
  ·rw [k1];exact .inr rfl
end Go.Gw

end
