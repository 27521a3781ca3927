/- Laws of the walk. Condition: each theorem says its own. -/
import Derived.Test.YtibgnokgebjbfaaGreatDoorGwAwakeLock
set_option linter.unusedVariables false
set_option linter.unusedSimpArgs false
set_option linter.unusedSectionVars false
section
set_option maxRecDepth 4096
namespace Go.Gw
open Go
attribute [local irreducible] loop
theorem Qxl {p:Nf} (h:PlantS p) (n:Int):Qgx p n=some (bif Yi p n then 0 else 6):=by
 have:=h.se;unfold Qgx;rw [Qas,Zc (by omega),Qp];show (bif !(Yi p n) then _ else _)=_;cases Yi p n<;>rfl
theorem QNa {p:Nf} (h:PlantS p) (n:Int):Qli p n=some (bif JV p n then 0 else 6):=by
 have:=h.tr;unfold Qli;rw [Qas,Zc (by omega),Qp];show (bif !(JV p n) then _ else _)=_;cases JV p n<;>rfl
theorem QMt {p:Nf} (h:PlantS p) (e:Nr):Qle p e=some (Zz p e):=by
  have h1:=h.sw;have h2:=h.ro;unfold Qle Zz;rw [Qas,Qp];by_cases hk:0<=e.Kind/\e.Kind<=6
  · rw [if_neg (by omega),show (decide (0<=e.Kind)&&decide (e.Kind<=6))=true by simp [hk.1,hk.2]];simp only [Bool.not_true,cond_false];by_cases h2:e.Kind=2
    · rw [if_pos h2,decide_eq_true h2,cond_true,Qas,Zc (by omega),Qp,Qqn];show (bif !(Qdd p e.A) then _ else _)=_;cases Qdd p e.A<;>cases YH e.B<;>rfl
    · rw [if_neg h2,decide_eq_false h2,cond_false,QNa h,Qp,Qxl h,Qp,Qas,Zc (by omega),Qp];cases JV p e.A
      · rfl
      simp only [cond_true,decide_true,Bool.not_true,cond_false];by_cases h0:e.Kind=0
      · rw [if_pos h0,decide_eq_true h0];rfl
      · rw [if_neg h0,decide_eq_false h0,cond_false];by_cases h1:e.Kind=1
        · rw [if_pos h1,decide_eq_true h1,cond_true];show (bif !(Qda p e.B) then _ else _)=_;cases Qda p e.B<;>rfl
        · rw [if_neg h1,decide_eq_false h1,cond_false];by_cases h3:e.B=0
          · rw [if_pos h3,decide_eq_true h3];rfl
          · rw [if_neg h3,decide_eq_false h3];rfl
  · rw [if_pos hk, show (decide (0 <= e.Kind) && decide (e.Kind <= 6)) = false by
      rw [Bool.and_eq_false_iff,decide_eq_false_iff_not,decide_eq_false_iff_not];omega]
    rfl
/-! ### Which section leads to which -/
theorem Que {α:Type} (g:α->Bool):∀ (l:List α) (k:Nat) (b:Bool),J1 (fun (_:Nat) (a:Bool) (x:α)=>a&&!(g x)) k b l=(b&&!(l.any g))
 | [],k,b=>by simp [J1]
 | x::l,k,b=>by
  unfold J1;rw [Que g l];simp only [List.any_cons];cases b<;>cases g x<;>simp
theorem QMv {p:Nf} {x:Ng} {r:Nn} {a b:Int} (h1:r.Np.length=p.Nb.length) (h2:x.Nb.length=p.Nb.length) (h3:p.Nb.length < 1000):loop (Qgz r p x b a) (true,0)=some (Yz p x.Nb r [a,b]):=by
 have hlen:(p.Nb.zip (r.Np.zip x.Nb)).length=p.Nb.length:=by simp [h1,h2]
 have:=(Qvs (step:=Qgz r p x b a) (p.Nb.zip (r.Np.zip x.Nb)) (fun _ (c:Bool) q=>c&&!(Qcr [a,b] q)) (fun c k=>(c,(k:Int))) (fun c=>c) (fun _ _=>True) true trivial (fun k hk c _=>by
  rw [hlen] at hk;refine ⟨?_,trivial⟩;unfold Qgz;simp only [XK hk,cond_true,Xr hk,Qp,XD k (show k < 4611686018427387904 by omega),Xr (show k < r.Np.length by omega),Xr (show k < x.Nb.length by omega),List.getElem_zip,Qcr];generalize hs:p.Nb[k].Nh=s;by_cases ha:s=a
  ·subst ha;cases c
   ·simp
   ·by_cases hn:x.Nb[k]=r.Np[k]
    ·simp [hn]
    ·simp [hn,Ne.symm hn]
  ·by_cases hb:s=b
   ·subst hb;cases c
    ·simp [ha,hs]
    ·by_cases hn:x.Nb[k]=r.Np[k]
     ·simp [hn,ha,hs]
     ·simp [hn,Ne.symm hn,ha,hs]
   ·cases c<;>simp [ha,hb,hs]) (fun c _=>by
  rw [hlen];unfold Qgz;simp only [XM];rfl)).1
 rw [Que,Bool.true_and] at this;exact this
theorem QMu {p:Nf} (hp:PlantOk p) {x:Ng} (h2:x.Nb.length=p.Nb.length) (a b:Int):Qlk p x a b=some (Jv p x.Nb a b):=by
 have hw4:=hp.w4;have hr10:=hp.r10;have hs8:=hp.s8;unfold Qlk Jv;have inner:∀ r∈p.Nj,loop (Qlj r p x b a) 0=some (if (ZB r a b&&Yz p x.Nb r [a,b])=true then .inl (.inr (.inl true)) else .inr ()):=fun r hr=>by
  have hr2:=hp.r2 r hr;have hr8:=hp.r8 r hr;have hlen:(r.Na.zip (r.Na.drop 1)).length=r.Na.length - 1:=by simp
  rw [Y0 (r.Na.zip (r.Na.drop 1)) (fun q=>(decide (q.1=a)&&decide (q.2=b))&&Yz p x.Nb r [a,b]) (fun _ _=>Sum.inr (.inl true)) (fun k hk=>by
   rw [hlen] at hk;unfold Qlj;rw [XD k (by omega),XK (show k+1 < r.Na.length by omega),cond_true,Xr (show k < r.Na.length by omega),Qp,Xr (show k+1 < r.Na.length by omega),QMv (hp.rn r hr) h2 (by omega)];simp only [List.getElem_zip,List.getElem_drop,Qp];have e:r.Na[1+k]'(by omega)=r.Na[k+1]'(by omega) := by congr 1;omega
   rw [e];generalize Yz p x.Nb r [a,b]=lb;by_cases h3:r.Na[k]=a
   ·by_cases h4:r.Na[k+1]=b
    ·cases lb<;>simp [h3,h4]
    ·cases lb<;>simp [h3,h4]
   ·cases lb<;>simp [h3]) (by
   rw [hlen];unfold Qlj;rw [XD _ (by omega),show r.Na.length - 1+1=r.Na.length by omega,XM];rfl)]
  have ea:(r.Na.zip (r.Na.drop 1)).any (fun q=>(decide (q.1=a)&&decide (q.2=b))&&Yz p x.Nb r [a,b])=(ZB r a b&&Yz p x.Nb r [a,b]):=by
   unfold ZB;cases Yz p x.Nb r [a,b]<;>simp
  rcases ZC (p:=fun q:Int×Int=>(decide (q.1=a)&&decide (q.2=b))&&Yz p x.Nb r [a,b]) (res:=fun _ _=>(Sum.inr (.inl true):Int⊕(Bool⊕Unit))) (r.Na.zip (r.Na.drop 1)) 0 with ⟨k1,k2⟩ | ⟨j,y,k1,k2,k3⟩
  ·rw [k1,<-ea,k2];rfl
  ·rw [k1,<-ea,k3];rfl
 rw [Y0 p.Nj (fun r=>ZB r a b&&Yz p x.Nb r [a,b]) (fun _ _=>true),Qp]
 ·rcases ZC (p:=fun r=>ZB r a b&&Yz p x.Nb r [a,b]) (res:=fun _ _=>true) p.Nj 0 with ⟨k1,k2⟩ | ⟨j,y,k1,k2,k3⟩
  ·rw [k1,k2];rfl
  ·rw [k1,k3];rfl
 ·intro k hk;unfold Qqs;rw [XK hk,cond_true,Xr hk,Qp,inner _ (List.getElem_mem hk),XD k (by omega)];cases (ZB p.Nj[k] a b&&Yz p x.Nb p.Nj[k] [a,b])<;>rfl
 ·unfold Qqs;rw [XM];rfl
/-! ### Which states are right -/
theorem QIr {x:Ng} {n:Nat} {s:Int}:decide (s∈(x.Nc.take n).flatMap (·.Nd))=(x.Nc.take n).any fun o=>decide (s∈o.Nd):=by
 rw [Bool.eq_iff_iff,decide_eq_true_eq,List.any_eq_true,List.mem_flatMap];simp only [decide_eq_true_eq]
theorem Qxj {p:Nf} (hS:PlantS p) (hp:PlantOk p) {x:Ng} (h:StateS x) (h2:x.Nb.length=p.Nb.length) (n:Nat) (hn:n < x.Nc.length) (hf:((x.Nc.take n).flatMap (·.Nd)).length<=1000 * n) :
    loop (Qgy x.Nc[n] p x) ((x.Nc.take n).flatMap (·.Nd),0)=some (match Xx (ZW p x n x.Nc[n]) x.Nc[n].Nd.length with | some k=>.inl (.inr (.inl (ZW p x n x.Nc[n] k))) | none=>.inr ((x.Nc.take (n+1)).flatMap (·.Nd))):=by
  have hc:=h.ch _ (List.getElem_mem hn);have hl:=h.tr;have e1:(x.Nc.take (n+1)).flatMap (·.Nd)=(x.Nc.take n).flatMap (·.Nd)++x.Nc[n].Nd:=by
    rw [<-Qhu _ _ hn,List.flatMap_append];simp
  rw [e1];generalize hF:(x.Nc.take n).flatMap (·.Nd)=F at hf ⊢;have hm:∀ s,decide (s∈F)=(x.Nc.take n).any fun o=>decide (s∈o.Nd):=fun s=>by rw [<-hF];exact QIr
  have:=JQ (step:=Qgy x.Nc[n] p x) (fun k=>(F++x.Nc[n].Nd.take k,(k:Int))) x.Nc[n].Nd.length (ZW p x n x.Nc[n]) (fun _ e=>(.inr (.inl e):((List Int)×Int)⊕(Int⊕Unit))) (F++x.Nc[n].Nd) (fun k hk _=>by
    have hs:ZW p x n x.Nc[n] k=chE p x n x.Nc[n] k x.Nc[n].Nd[k]:=ZA _ _ _ hk;rw [hs];unfold Qgy chE;simp only [XK hk,cond_true,Xr hk,Qp,Qxl hS];rw [Qfw _ _ (by simp;omega),Qp,JI (by simp;omega),Qp,XD k (by omega),List.append_assoc,Qhu _ _ hk,
      show decide (x.Nc[n].Nd[k]∈F++x.Nc[n].Nd.take k)=(decide (x.Nc[n].Nd[k]∈x.Nc[n].Nd.take k)||(x.Nc.take n).any fun o=>decide (x.Nc[n].Nd[k]∈o.Nd)) by
        rw [<-hm,Bool.eq_iff_iff];simp [or_comm]]
    cases Yi p x.Nc[n].Nd[k]
    · rfl
    cases (decide (x.Nc[n].Nd[k]∈x.Nc[n].Nd.take k)||(x.Nc.take n).any fun o=>decide (x.Nc[n].Nd[k]∈o.Nd))
    · simp only [cond_true,decide_true,Bool.not_true,cond_false];by_cases hk0:k=0
      · subst hk0;rfl
      · rw [decide_eq_true (show (0:Int) < (k:Int) by omega),show w64 ((k:Int) - 1)=((k - 1:Nat):Int) by rw [Zc (by omega)];omega];simp only [cond_true,Xr (show k - 1 < x.Nc[n].Nd.length by omega),Qp,QMu hp h2,if_neg hk0,List.getElem?_eq_getElem (show k - 1 < x.Nc[n].Nd.length by omega),Option.getD_some];cases Jv p x.Nb x.Nc[n].Nd[k - 1] x.Nc[n].Nd[k]<;>rfl
    · rfl) (fun _=>by
    unfold Qgy;simp only [XM,List.take_length];rfl)
  simp only [List.take_zero,List.append_nil,Int.natCast_zero] at this;exact this
theorem QMy {p:Nf} (hS:PlantS p) (hp:PlantOk p) {x:Ng} (h:StateS x):Qlh p x=some (Qer p x):=by
  have h1:=h.sw;have h2:=h.tr;have hw4:=hp.w4;have ht3:=hp.t3;unfold Qlh Qer;by_cases hl:x.Nb.length=p.Nb.length/\x.Nc.length=p.Nc.length
  · rw [if_pos hl,decide_eq_true (show (x.Nb.length:Int)=p.Nb.length by omega),decide_eq_true (show (x.Nc.length:Int)=p.Nc.length by omega)];simp only [Bool.not_true,Bool.or_self,cond_false];rw [Y0 x.Nb (fun n=>!(YH n)) (fun _ _=>2) (fun k hk=>by
      unfold Qqq;rw [XK hk,cond_true,Xr hk,Qp,Qqn,Qp,XD k (by omega)]) (by
      unfold Qqq;rw [XM];rfl),Qp]
    have ea:x.Nb.any (fun n=>!(YH n))=!(x.Nb.all YH):=by
      rw [List.all_eq_not_any_not,Bool.not_not]
    rcases ZC (p:=fun n=>!(YH n)) (res:=fun _ _=>(2:Int)) x.Nb 0 with ⟨k1,k2⟩ | ⟨j,y,k1,k2,k3⟩
    · rw [k1];rw [ea,Bool.not_eq_false'] at k2;rw [k2,Bool.true_and];simp only [Xn];rw [show Qqr x.Ni=some (Qad x.Ni) from rfl,Qp];cases Qad x.Ni
      · rfl
      · simp only [Bool.not_true,cond_false,cond_true];have:=JQ (step:=Qlg p x) (fun n=>((x.Nc.take n).flatMap (·.Nd),(n:Int))) x.Nc.length (Je p x) (fun _ e=>e) () (fun n hn _=>by
          have hs:Je p x n=tsE p x n x.Nc[n]:=ZA _ _ _ hn;have hf:∀ m,m<=x.Nc.length->((x.Nc.take m).flatMap (·.Nd)).length<=1000 * m:=fun m=>by
            induction m with
            | zero=>intro _;simp
            | succ m ih =>
              intro hm;rw [<-Qhu _ _ (show m < x.Nc.length by omega),List.flatMap_append,List.length_append];have:=ih (by omega);have:=h.ch _ (List.getElem_mem (show m < x.Nc.length by omega));rw [show ([x.Nc[m]]:List Nl).flatMap (·.Nd)=x.Nc[m].Nd by simp];omega
          have hc:=h.ch _ (List.getElem_mem hn);rw [hs];unfold Qlg tsE;simp only [XK hn,cond_true,Xr hn,Qp,Qas];have eu:(((decide ((x.Nc[n].Nd.length:Int)=0))&&(!decide (x.Nc[n].Nk=0)))||((decide (0 < (x.Nc[n].Nd.length:Int)))&&(!(decide (1<=x.Nc[n].Nk)&&decide (x.Nc[n].Nk<=(x.Nc[n].Nd.length:Int))))))=!(JF x.Nc[n]):=by
            unfold JF;by_cases h0:x.Nc[n].Nd.length=0
            · rw [if_pos h0,decide_eq_true (show (x.Nc[n].Nd.length:Int)=0 by omega),decide_eq_false (show ¬ (0:Int) < x.Nc[n].Nd.length by omega)];simp
            · rw [if_neg h0,decide_eq_false (show ¬ (x.Nc[n].Nd.length:Int)=0 by omega),decide_eq_true (show (0:Int) < x.Nc[n].Nd.length by omega)];simp
          by_cases h0:x.Nc[n].Nd.length=0
          · have g1:decide ((x.Nc[n].Nd.length:Int)=0)=true:=decide_eq_true (by omega);have g2:decide ((0:Int) < x.Nc[n].Nd.length)=false:=decide_eq_false (by omega);rw [g1,g2] at eu ⊢;simp only [Bool.and_false,cond_false,Qp,Bool.false_and,Bool.or_false] at eu ⊢;rw [eu];cases JF x.Nc[n]
            · rfl
            · simp only [Bool.not_true,cond_false,cond_true];rw [Qxj hS hp h hl.1 n hn (hf n (by omega)),Qp];cases hfe:Xx (ZW p x n x.Nc[n]) x.Nc[n].Nd.length with
              | some k=>rw [if_neg (JN hfe).2.1];rfl
              | none=>rw [if_pos rfl];simp only [Xn];rw [XD n (by omega)]
          · have g1:decide ((x.Nc[n].Nd.length:Int)=0)=false:=decide_eq_false (by omega);have g2:decide ((0:Int) < x.Nc[n].Nd.length)=true:=decide_eq_true (by omega);rw [g1,g2] at eu ⊢;simp only [Bool.false_and,Bool.not_false,Bool.and_true,cond_true,Qp] at eu ⊢;rw [eu];cases JF x.Nc[n]
            · rfl
            · simp only [Bool.not_true,cond_false,cond_true];rw [Qxj hS hp h hl.1 n hn (hf n (by omega)),Qp];cases hfe:Xx (ZW p x n x.Nc[n]) x.Nc[n].Nd.length with
              | some k=>rw [if_neg (JN hfe).2.1];rfl
              | none=>rw [if_pos rfl];simp only [Xn];rw [XD n (by omega)]) (fun _=>by
          unfold Qlg;simp only [XM];rfl)
        simp only [List.take_zero,List.flatMap_nil,Int.natCast_zero] at this;rw [this,Qp];cases Xx (Je p x) x.Nc.length<;>rfl
    · rw [k1];rw [ea,Bool.not_eq_true'] at k3;rw [k3];rfl
  · rw [if_neg hl, show (!decide ((x.Nb.length : Int) = p.Nb.length) || !decide ((x.Nc.length : Int) = p.Nc.length)) = true by
      simp only [Bool.or_eq_true,Bool.not_eq_true',decide_eq_false_iff_not];omega]
    rfl
end Go.Gw

end
section
set_option maxRecDepth 4096
namespace Go.Gw
open Go
attribute [local irreducible] loop
/-! ### All events -/
/-! ### What lies in a list and meets a test -/
def Ju {α β:Type} (p:α->Bool) (g:Nat->α->β):Nat->List α->List β
 | _,[]=>[]
 | k,x::l=>if p x=true then g k x::Ju p g (k+1) l else Ju p g (k+1) l
theorem Qud {α:Type} {p:α->Bool} {i:Int}:∀ (l:List α) (k:Nat),i∈Ju p (fun k _=>(k:Int)) k l↔∃ j,∃ h:j < l.length,p l[j]=true/\i=((k+j:Nat):Int)
 | [],k=>by simp [Ju]
 | x::l,k=>by
  have ih:=Qud (p:=p) (i:=i) l (k+1);unfold Ju;by_cases hp:p x=true
  ·rw [if_pos hp,List.mem_cons,ih];constructor
   ·rintro (h | ⟨j,hj,h1,h2⟩)
    ·exact ⟨0,by simp,by simpa using hp,by simpa using h⟩
    ·exact ⟨j+1,by simpa using hj,by simpa using h1,by rw [h2];omega⟩
   ·rintro ⟨j,hj,h1,h2⟩;cases j with
    | zero=>exact .inl (by simpa using h2)
    | succ j=>exact .inr ⟨j,by simpa using hj,by simpa using h1,by rw [h2];omega⟩
  ·rw [if_neg hp,ih];constructor
   ·rintro ⟨j,hj,h1,h2⟩;exact ⟨j+1,by simpa using hj,by simpa using h1,by rw [h2];omega⟩
   ·rintro ⟨j,hj,h1,h2⟩;cases j with
    | zero=>exact absurd (by simpa using h1) hp
    | succ j=>exact ⟨j,by simpa using hj,by simpa using h1,by rw [h2];omega⟩
theorem QIf {α β σ ρ:Type} {step:σ->Option (σ⊕ρ)} (l:List α) (p:α->Bool) (g:Nat->α->β) (S:List β->Nat->σ) (o:List β->ρ)
  (hs:∀ k (hk:k < l.length) acc,acc.length<=k->step (S acc k)=some (.inl (S (if p l[k]=true then acc++[g k l[k]] else acc) (k+1)))) (he:∀ acc,step (S acc l.length)=some (.inr (o acc))):loop step (S [] 0)=some (o (Ju p g 0 l)):=by
 have key:∀ j k acc,acc.length<=k->j+k=l.length->loop step (S acc k)=some (o (acc++Ju p g k (l.drop k))):=by
  intro j
  induction j with
  | zero =>
   intro k acc _ hk;obtain rfl:k=l.length:=by omega
   rw [List.drop_length];simp only [Ju,List.append_nil];exact Qcu (he acc)
  | succ j ih =>
   intro k acc ha hk;have hlt:k < l.length:=by omega
   rw [List.drop_eq_getElem_cons hlt,Qbs (hs k hlt acc ha)];by_cases hp:p l[k]=true
   ·rw [if_pos hp,ih (k+1) _ (by simp;omega) (by omega)];simp [Ju,hp]
   ·rw [if_neg hp,ih (k+1) _ (by omega) (by omega)];simp [Ju,hp]
 have:=key l.length 0 [] (by simp) (by omega);simpa using this
def Qah (p:Nf) (x:Ng):List Int:=Ju (fun s:Ns=>Yk x s.Nh) (fun k _=>(k:Int)) 0 p.Nb
end Go.Gw

end
section
set_option maxRecDepth 4096
namespace Go.Gw
open Go
attribute [local irreducible] loop
theorem Qyt {α:Type} {p:α->Bool}:∀ (l:List α) (m:Nat),(Ye p (fun k _=>(k:Int)) m l=.inr ()/\l.any p=false)\/∃ j,∃ h:j < l.length,Ye p (fun k _=>(k:Int)) m l=.inl ((m+j:Nat):Int)/\p l[j]=true
 | [],m=>.inl ⟨rfl,rfl⟩
 | x::l,m=>by
  by_cases hp:p x=true
  ·exact .inr ⟨0,by simp,by simp [Ye,hp],by simpa using hp⟩
  ·rcases Qyt (p:=p) l (m+1) with ⟨h1,h2⟩ | ⟨j,hj,h1,h2⟩
   ·exact .inl ⟨by simp [Ye,hp,h1],by simp [hp,h2]⟩
   ·exact .inr ⟨j+1,by simpa using hj,by simp only [Ye,hp];rw [h1];simp;omega,by simpa using h2⟩
theorem QFw {α:Type} (p:α->Bool) (l:List α):(Qag p l=-1/\l.any p=false)\/∃ j,∃ h:j < l.length,Qag p l=(j:Int)/\p l[j]=true:=by
 unfold Qag;rcases Qyt (p:=p) l 0 with ⟨h1,h2⟩ | ⟨j,hj,h1,h2⟩
 ·exact .inl ⟨by rw [h1],h2⟩
 ·exact .inr ⟨j,hj,by rw [h1];simp,h2⟩
theorem Qws {α:Type} {l:List α} (h:l.Nodup) {i j:Nat} (hi:i < l.length) (hj:j < l.length) (e:l[i]=l[j]):i=j:=by
 unfold List.Nodup at h;rw [List.pairwise_iff_getElem] at h;rcases Nat.lt_trichotomy i j with h1 | h1 | h1
 ·exact absurd e (h i j hi hj h1)
 ·exact h1
 ·exact absurd e.symm (h j i hj hi h1)
theorem QGa {p:Nf} (hp:PlantOk p) {x:Ng} (h2:x.Nb.length=p.Nb.length) (a b:Int):Qke (some ⟨p,x⟩) a b=some (Jv p x.Nb a b):=by
  have hw4:=hp.w4;have hr10:=hp.r10;have hs8:=hp.s8;unfold Qke Jv;rw [Qp,Y0 p.Nj (fun r=>ZB r a b&&Yz p x.Nb r [a,b]) (fun _ _=>true),Qp]
  · rcases ZC (p:=fun r=>ZB r a b&&Yz p x.Nb r [a,b]) (res:=fun _ _=>true) p.Nj 0 with ⟨k1,k2⟩ | ⟨j,y,k1,k2,k3⟩
    · rw [k1,k2];rfl
    · rw [k1,k3];rfl
  · intro k hk;have hr:=List.getElem_mem hk;unfold Qpn;simp only [XK hk,cond_true,Xr hk,Qp];generalize p.Nj[k]=r at hr ⊢;have hr2:=hp.r2 r hr;have hr8:=hp.r8 r hr;have hrd:=hp.rd r hr;rw [Qur _ _ (by omega),Qp,Quw (hp.rn r hr) h2 (by omega) (by simp),XD k (by omega)];rcases QFw (fun x=>decide (a=x)) r.Na with ⟨h3,h4⟩ | ⟨j,hj,h3,h4⟩
    · rw [h3];have h5:ZB r a b=false:=by
        cases hb:ZB r a b with
        | false=>rfl
        | true =>
          obtain ⟨j,hj,h6,_⟩:=pairB_iff.1 hb;rw [Qsz,decide_eq_false_iff_not] at h4;exact absurd (h6▸List.getElem_mem _) h4
      rw [h5];rfl
    · rw [h3];have h4:a=r.Na[j]:=by simpa using h4
      rw [decide_eq_true (show (0:Int)<=(j:Int) by omega),XD j (by omega)];by_cases h5:j+1 < r.Na.length
      · rw [XK h5];simp only [Bool.and_self,cond_true];rw [Xr h5,Qp];have h6:ZB r a b=decide (r.Na[j+1]=b):=by
          rw [Bool.eq_iff_iff,pairB_iff,decide_eq_true_eq];constructor
          · rintro ⟨i,hi,h7,h8⟩;have:i=j:=Qws hrd (by omega) hj (h7.trans h4);subst this;exact h8
          · intro h7;exact ⟨j,h5,h4.symm,h7⟩
        rw [h6];cases decide (r.Na[j+1]=b)<;>rfl
      · rw [decide_eq_false (show ¬ ((j+1:Nat):Int) < r.Na.length by omega)];have h6:ZB r a b=false:=by
          cases hb:ZB r a b with
          | false=>rfl
          | true =>
            obtain ⟨i,hi,h7,_⟩:=pairB_iff.1 hb;have:i=j:=Qws hrd (by omega) hj (h7.trans h4);omega
        rw [h6];rfl
  · unfold Qpn;simp only [XM];rfl
theorem Quf {α:Type} (g:α->Bool):∀ (l:List α) (k:Nat) (b:Bool),J1 (fun (_:Nat) (a:Bool) (x:α)=>a||g x) k b l=(b||l.any g)
 | [],k,b=>by simp [J1]
 | x::l,k,b=>by
  unfold J1;rw [Quf g l];simp [Bool.or_assoc]
theorem QBp (l:List Nl) (h:∀ t∈l,t.Nd.length < 1000) (hl:l.length < 1000) (s:Int) (b:Bool):loop (Qga s l) (b,0)=some (b||l.any fun o=>decide (s∈o.Nd)):=by
 have:=(Qvs (step:=Qga s l) l (fun _ (c:Bool) o=>c||decide (s∈o.Nd)) (fun c k=>(c,(k:Int))) (fun c=>c) (fun _ _=>True) b trivial (fun k hk c _=>by
  refine ⟨?_,trivial⟩;unfold Qga;simp only [XK hk,cond_true,Xr hk,Qp,XD k (show k < 4611686018427387904 by omega),Qdo _ _ (show l[k].Nd.length < 1000000 by have:=h _ (List.getElem_mem hk);omega)];cases c<;>rfl) (fun c _=>by
  unfold Qga;simp only [XM];rfl)).1
 rw [Quf] at this;exact this
theorem QRl (t:Nl):Z7 t.Nk (if (t.Nd.length:Int) < 1 then (t.Nd.length:Int) else 1) (t.Nd.length:Int)=some (JF t):=by
 rw [Qsh];congr 1;unfold JF;by_cases h0:t.Nd.length=0
 ·rw [if_pos h0,if_pos (show (t.Nd.length:Int) < 1 by omega),Bool.eq_iff_iff];simp only [Bool.and_eq_true,decide_eq_true_eq];omega
 ·rw [if_neg h0,if_neg (show ¬ (t.Nd.length:Int) < 1 by omega)]
theorem QFz {p:Nf} (hS:PlantS p) (hp:PlantOk p) {x:Ng} (h:StateS x) (h2:x.Nb.length=p.Nb.length) (n:Nat) (hn:n < x.Nc.length):Qkc (some ⟨p,x⟩) (n:Int)=some (Je p x n):=by
  have hs:Je p x n=tsE p x n x.Nc[n]:=ZA _ _ _ hn;have hc:=h.ch _ (List.getElem_mem hn);have hl:=h.tr;rw [hs];unfold Qkc tsE;simp only [Qp,Xr hn];rw [QRl,Qp];cases JF x.Nc[n]
  · rfl
  simp only [Bool.not_true,cond_false,cond_true];have key:loop (Qkb x.Nc[n] (some ⟨p,x⟩) (n:Int)) 0=some (match Xx (ZW p x n x.Nc[n]) x.Nc[n].Nd.length with | some i=>.inl (ZW p x n x.Nc[n] i) | none=>.inr ()) :=
    JQ (fun k=>(k:Int)) x.Nc[n].Nd.length (ZW p x n x.Nc[n]) (fun _ e=>e) () (fun k hk _=>by
      have hs:ZW p x n x.Nc[n] k=chE p x n x.Nc[n] k x.Nc[n].Nd[k]:=ZA _ _ _ hk;rw [hs];unfold Qkb chE;simp only [XK hk,cond_true,Xr hk,Qp];rw [Qcn (by omega),Qp,Qdo _ _ (by simp;omega),Qp,Qcn (by omega),Qp,
        QBp _ (fun t ht=>h.ch t (List.mem_of_mem_take ht)) (by simp;omega),Qp,Qyh hS,Qp,Yq,Qp,XD k (by omega)]
      generalize (decide (x.Nc[n].Nd[k]∈x.Nc[n].Nd.take k)||(x.Nc.take n).any fun o=>decide (x.Nc[n].Nd[k]∈o.Nd))=bb;by_cases hk0:k=0
      · subst hk0;simp only [Int.natCast_zero,decide_true,Bool.not_true,cond_false,Qp,Bool.true_or,if_true,Yq,cond_true];rw [Zs _ (by simp),Qp,Qdt];cases Yi p x.Nc[n].Nd[0]<;>cases bb<;>rfl
      · rw [decide_eq_false (show ¬ (k : Int) = 0 by omega), show w64 ((k : Int) - 1) = ((k - 1 : Nat) : Int) by rw [Zc (by omega)]; omega,
          show (if (0:Int) < ((k - 1:Nat):Int) then ((k - 1:Nat):Int) else 0)=((k - 1:Nat):Int) by split<;>omega]
        simp only [Bool.not_false,cond_true,Xr (show k - 1 < x.Nc[n].Nd.length by omega),Qp,QGa hp h2,if_neg hk0,List.getElem?_eq_getElem (show k - 1 < x.Nc[n].Nd.length by omega),Option.getD_some,Bool.false_or,Yq];rw [Zs _ (by simp),Qp,Qdt];cases Yi p x.Nc[n].Nd[k]<;>cases bb<;>cases Jv p x.Nb x.Nc[n].Nd[k - 1] x.Nc[n].Nd[k]<;>rfl) (fun _=>by
      unfold Qkb;simp only [XM];rfl)
  rw [key,Qp];cases Xx (ZW p x n x.Nc[n]) x.Nc[n].Nd.length<;>rfl
theorem QMm (l:List Int) (hl:l.length < 1000):Qmd l=some (!(l.all YH)):=by
 unfold Qmd Qri;rw [Y0 l (fun n=>!(YH n)) (fun k _=>(k:Int)),Qp,Qeq,Qp,Qho]
 ·rw [List.all_eq_not_any_not,Bool.not_not]
 ·intro k hk;unfold Qrh;rw [XK hk,Xr hk,XD k (by omega)];rfl
 ·unfold Qrh;rw [XM];rfl
def ZO (p:Nf) (x:Ng):Int:=if (Z0 p).2=0 then Qer p x else (Z0 p).2
theorem Qxa {p:Nf} (hS:PlantS p) {x:Ng} (h:StateS x):Qgj p x=some (if ZO p x=0 then (some ⟨p,x⟩,0) else (none,ZO p x)):=by
  have h1:=h.sw;have h2:=h.tr;have h3:=hS.sw;have h4:=hS.tr;unfold Qgj ZO;rw [QMm _ (by omega),Qp,QMl hS,Qp,Yq,Qp,Bool.not_not];by_cases hp0:(Z0 p).2=0
  · have hp:=Qqm hp0;simp only [if_pos hp0,hp0];unfold Qer;by_cases hl:x.Nb.length=p.Nb.length/\x.Nc.length=p.Nc.length
    · rw [if_pos hl,decide_eq_true (show (x.Nb.length:Int)=p.Nb.length by omega),decide_eq_true (show (x.Nc.length:Int)=p.Nc.length by omega)];have e1:∀ (f:Bool->Option (Option Nm×Int)),(Option.bind (bif x.Nb.all YH then Qbq x.Ni else some default) f)=f (bif x.Nb.all YH then Qad x.Ni else default):=fun f=>by
        cases x.Nb.all YH<;>rfl
      rw [e1,Yq,Qp,Zs _ (by simp),Qp,Qdt];cases ha:x.Nb.all YH
      · rfl
      · cases hb:Qad x.Ni
        · rfl
        · simp only [Bool.and_self,cond_true,ne_eq,not_true_eq_false,if_false,decide_true,Bool.not_true,cond_false];have key:loop (Qki p x) 0=some (match Xx (Je p x) x.Nc.length with | some i=>.inl (none,Je p x i) | none=>.inr ()) :=
            JQ (fun k=>(k:Int)) x.Nc.length (Je p x) (fun _ e=>(none,e)) () (fun k hk _=>by
              unfold Qki;rw [XK hk,cond_true,QFz hS hp h hl.1 k hk,Qp,XD k (by omega)];by_cases h5:Je p x k=0
              · rw [if_pos h5,decide_eq_true h5];rfl
              · rw [if_neg h5,decide_eq_false h5];rfl) (fun _=>by
              unfold Qki;rw [XM];rfl)
          rw [key,Qp];cases hf:Xx (Je p x) x.Nc.length with
          | some i =>
            have h5:=(JN hf).2.1;simp [Xn,h5]
          | none=>rfl
    · rw [if_neg hl, show (decide ((x.Nb.length : Int) = p.Nb.length) && decide ((x.Nc.length : Int) = p.Nc.length)) = false by
        rw [Bool.and_eq_false_iff,decide_eq_false_iff_not,decide_eq_false_iff_not];omega]
      have e1:∀ (f:Bool->Option (Option Nm×Int)),(Option.bind (bif x.Nb.all YH then Qbq x.Ni else some default) f)=f (bif x.Nb.all YH then Qad x.Ni else default):=fun f=>by
        cases x.Nb.all YH<;>rfl
      rw [e1,Yq,Qp,Zs _ (by simp),Qp,Qdt];rfl
  · simp only [if_neg hp0];have e1:∀ (f:Bool->Option (Option Nm×Int)),(Option.bind (bif x.Nb.all YH then Qbq x.Ni else some default) f)=f (bif x.Nb.all YH then Qad x.Ni else default):=fun f=>by
      cases x.Nb.all YH<;>rfl
    rw [e1,Yq,Qp,Zs _ (by simp),Qp,Qdt,if_pos hp0,decide_eq_false hp0];rfl
theorem Qxb {p:Nf} {x:Ng} (h:ZO p x=0):PlantOk p/\StateOk p x/\(Z0 p).2=0:=by
 unfold ZO at h;by_cases hp0:(Z0 p).2=0
 ·rw [if_pos hp0] at h;exact ⟨Qqm hp0,state_iff.1 h,hp0⟩
 ·rw [if_neg hp0] at h;exact absurd h hp0
theorem QMa {p:Nf} {x:Ng} (h0:(Z0 p).2=0) (h:StateOk p x):ZO p x=0:=by
 unfold ZO;rw [if_pos h0];exact state_iff.2 h
def Qnl (p:Nf) (x:Ng) (e:Nr):Ng×Int:=if ZO p x=0 then (if evE p x e=0 then (YZ p x e,0) else (QAe,evE p x e)) else (QAe,ZO p x)
theorem QFy {p:Nf} (hS:PlantS p) {x:Ng} (h:StateS x) (e:Nr):Qju p x e=some (Qnl p x e):=by
 unfold Qju Qnl;rw [Qxa hS h,Qp];by_cases h0:ZO p x=0
 ·obtain ⟨hp,hx,_⟩:=Qxb h0;simp only [if_pos h0,decide_true,cond_true];rw [QDi hS,Qp,Qp];unfold evE;by_cases h1:Zz p e=0
  ·obtain ⟨r,hr,h2,h3⟩:=QBe hp hx h1;simp only [if_pos h1,decide_eq_true h1,cond_true];rw [hr,Qp,Qp,h2];by_cases h4:ZP p x e=0
   ·rw [if_pos h4,h3 h4,decide_eq_true h4];simp only [Bool.not_true,cond_false];rw [QRg p ((Qro hp hx h1 h4).s hp)];rfl
   ·rw [if_neg h4,decide_eq_false h4];rfl
  ·simp only [if_neg h1,decide_eq_false h1,cond_false,Qp,Bool.not_false,cond_true];rfl
 ·simp only [if_neg h0,decide_eq_false h0,cond_false,Qp,Bool.not_false,cond_true];rfl
theorem Qus {p:Nf} (hS:PlantS p) {x:Ng} (h:StateS x):Qfy p x=some (if ZO p x=0 then (Qah p x,0) else ([],ZO p x)):=by
  have h1:=hS.sw;unfold Qfy;rw [Qxa hS h,Qp];by_cases h0:ZO p x=0
  · simp only [if_pos h0,decide_true,Bool.not_true,cond_false];have:=QIf (step:=Qfx p (some ⟨p,x⟩,0)) p.Nb (fun s:Ns=>Yk x s.Nh) (fun k _=>(k:Int)) (fun acc k=>(acc,(k:Int))) (fun acc=>acc) (fun k hk acc ha=>by
      unfold Qfx;simp only [XK hk,cond_true,Xr hk,Qp,Qmi p h _ (show ([p.Nb[k].Nh]:List Int).length < 1000 by simp),List.any_cons,List.any_nil,Bool.or_false];cases Yk x p.Nb[k].Nh
      · simp only [cond_false,Bool.false_eq_true,if_false,XD k (show k < 4611686018427387904 by omega)]
      · simp only [cond_true,if_true];rw [JI (by simp;omega),Qp,XD k (by omega)]) (fun acc=>by
      unfold Qfx;simp only [XM];rfl)
    have l2:loop (Qfx p (some ⟨p,x⟩,0)) (([]:List Int),0)=some (Qah p x):=this;rw [l2];rfl
  · simp only [if_neg h0,decide_eq_false h0,Bool.not_false,cond_true]
/-! ### Telegrams -/
end Go.Gw

end
section
set_option maxRecDepth 4096
namespace Go.Gw
open Go
attribute [local irreducible] loop
theorem QPq {x y:Ng} (h:y.Nb=x.Nb):Ng.mk x.Nb y.Nc y.Ni=y:=by rw [<-h]
theorem QBo {p:Nf} (hS:PlantS p) {x:Ng} (h:StateS x):Qjr p x=some (ZO p x):=by
 unfold Qjr ZO;rw [QMw hS,Qp];by_cases h0:(Z0 p).2=0
 ·rw [if_pos h0,decide_eq_true h0,Bool.not_true,cond_false,QMy hS (Qqm h0) h];rfl
 ·rw [if_neg h0,decide_eq_false h0];rfl
theorem Qux {p:Nf} {x:Ng} {F:Bool->Bool->Option Bool} (h0:∀ b,F false b=some true) (h1:F true false=some true) (h2:PlantS p->StateS x->(p.Na.length<=4\/8 < p.Na.length)->F true true=some true) :
  (Option.bind (Qdw p) fun r=>Option.bind (bif !(!r) then Qdx x else some default) fun s=>F r s)=some true:=by
 rcases QEv p with ⟨hf,hS,h8⟩ | hf
 ·rw [hf,Qp];rcases QEw x with ⟨hx,hX⟩ | hx
  ·simp only [Bool.not_true,Bool.not_false,cond_true];rw [hx,Qp];exact h2 hS hX h8
  ·simp only [Bool.not_true,Bool.not_false,cond_true];rw [hx,Qp];exact h1
 ·rw [hf,Qp];exact h0 _
end Go.Gw

end
