/- Laws of the walk. Condition: each theorem says its own. -/
import Derived.Test.YteplgmnnkdpmeaaGreatDoorGwAwakeLock
set_option linter.unusedVariables false
set_option linter.unusedSimpArgs false
set_option linter.unusedSectionVars false
section
set_option maxRecDepth 4096
namespace Go.Gw
open Go
attribute [local irreducible] loop
theorem Qxt {p:Ng} (h:PlantS p) (n:Int):Qhj p n=some (bif Yu p n then 0 else 6):=by
 have:=h.se;unfold Qhj;rw [Qbl,Zg (by omega),Qp];show (bif !(Yu p n) then _ else _)=_;cases Yu p n<;>rfl
theorem QNp {p:Ng} (h:PlantS p) (n:Int):Qlr p n=some (bif Qab p n then 0 else 6):=by
 have:=h.tr;unfold Qlr;rw [Qbl,Zg (by omega),Qp];show (bif !(Qab p n) then _ else _)=_;cases Qab p n<;>rfl
theorem QNi {p:Ng} (h:PlantS p) (e:Nq):Qln p e=some (ZU p e):=by
  have h1:=h.sw;have h2:=h.ro;unfold Qln ZU;rw [Qbl,Qp];by_cases hk:0<=e.Kind/\e.Kind<=6
  · rw [if_neg (by omega),show (decide (0<=e.Kind)&&decide (e.Kind<=6))=true by simp [hk.1,hk.2]];simp only [Bool.not_true,cond_false];by_cases h2:e.Kind=2
    · rw [if_pos h2,decide_eq_true h2,cond_true,Qbl,Zg (by omega),Qp,Qrc];show (bif !(Qdr p e.A) then _ else _)=_;cases Qdr p e.A<;>cases YW e.B<;>rfl
    · rw [if_neg h2,decide_eq_false h2,cond_false,QNp h,Qp,Qxt h,Qp,Qbl,Zg (by omega),Qp];cases Qab p e.A
      · rfl
      simp only [cond_true,decide_true,Bool.not_true,cond_false];by_cases h0:e.Kind=0
      · rw [if_pos h0,decide_eq_true h0];rfl
      · rw [if_neg h0,decide_eq_false h0,cond_false];by_cases h1:e.Kind=1
        · rw [if_pos h1,decide_eq_true h1,cond_true];show (bif !(Qdn p e.B) then _ else _)=_;cases Qdn p e.B<;>rfl
        · rw [if_neg h1,decide_eq_false h1,cond_false];by_cases h3:e.B=0
          · rw [if_pos h3,decide_eq_true h3];rfl
          · rw [if_neg h3,decide_eq_false h3];rfl
  · rw [if_pos hk, show (decide (0 <= e.Kind) && decide (e.Kind <= 6)) = false by
      rw [Bool.and_eq_false_iff,decide_eq_false_iff_not,decide_eq_false_iff_not];omega]
    rfl
/-! ### Which section leads to which -/
theorem Qus {α:Type} (g:α->Bool):∀ (l:List α) (k:Nat) (b:Bool),fld (fun (_:Nat) (a:Bool) (x:α)=>a&&!(g x)) k b l=(b&&!(l.any g))
 | [],k,b=>by simp [fld]
 | x::l,k,b=>by
  unfold fld;rw [Qus g l];simp only [List.any_cons];cases b<;>cases g x<;>simp
theorem QNk {p:Ng} {x:Nh} {r:Nn} {a b:Int} (h1:r.Nr.length=p.Nb.length) (h2:x.Nb.length=p.Nb.length) (h3:p.Nb.length < 1000):loop (Qhl r p x b a) (true,0)=some (Y0 p x.Nb r [a,b]):=by
 have hlen:(p.Nb.zip (r.Nr.zip x.Nb)).length=p.Nb.length:=by simp [h1,h2]
 have:=(Qwc (step:=Qhl r p x b a) (p.Nb.zip (r.Nr.zip x.Nb)) (fun _ (c:Bool) q=>c&&!(Qdf [a,b] q)) (fun c k=>(c,(k:Int))) (fun c=>c) (fun _ _=>True) true trivial (fun k hk c _=>by
  rw [hlen] at hk;refine ⟨?_,trivial⟩;unfold Qhl;simp only [XY hk,cond_true,XE hk,Qp,XK k (show k < 4611686018427387904 by omega),XE (show k < r.Nr.length by omega),XE (show k < x.Nb.length by omega),List.getElem_zip,Qdf];generalize hs:p.Nb[k].Nl=s;by_cases ha:s=a
  ·subst ha;cases c
   ·simp
   ·by_cases hn:x.Nb[k]=r.Nr[k]
    ·simp [hn]
    ·simp [hn,Ne.symm hn]
  ·by_cases hb:s=b
   ·subst hb;cases c
    ·simp [ha,hs]
    ·by_cases hn:x.Nb[k]=r.Nr[k]
     ·simp [hn,ha,hs]
     ·simp [hn,Ne.symm hn,ha,hs]
   ·cases c<;>simp [ha,hb,hs]) (fun c _=>by
  rw [hlen];unfold Qhl;simp only [XZ];rfl)).1
 rw [Qus,Bool.true_and] at this;exact this
theorem QNj {p:Ng} (hp:PlantOk p) {x:Nh} (h2:x.Nb.length=p.Nb.length) (a b:Int):Qlt p x a b=some (JO p x.Nb a b):=by
 have hw4:=hp.w4;have hr10:=hp.r10;have hs8:=hp.s8;unfold Qlt JO;have inner:∀ r∈p.Ni,loop (Qls r p x b a) 0=some (if (ZX r a b&&Y0 p x.Nb r [a,b])=true then .inl (.inr (.inl true)) else .inr ()):=fun r hr=>by
  have hr2:=hp.r2 r hr;have hr8:=hp.r8 r hr;have hlen:(r.Nd.zip (r.Nd.drop 1)).length=r.Nd.length - 1:=by simp
  rw [Zd (r.Nd.zip (r.Nd.drop 1)) (fun q=>(decide (q.1=a)&&decide (q.2=b))&&Y0 p x.Nb r [a,b]) (fun _ _=>Sum.inr (.inl true)) (fun k hk=>by
   rw [hlen] at hk;unfold Qls;rw [XK k (by omega),XY (show k+1 < r.Nd.length by omega),cond_true,XE (show k < r.Nd.length by omega),Qp,XE (show k+1 < r.Nd.length by omega),QNk (hp.rn r hr) h2 (by omega)];simp only [List.getElem_zip,List.getElem_drop,Qp];have e:r.Nd[1+k]'(by omega)=r.Nd[k+1]'(by omega) := by congr 1;omega
   rw [e];generalize Y0 p x.Nb r [a,b]=lb;by_cases h3:r.Nd[k]=a
   ·by_cases h4:r.Nd[k+1]=b
    ·cases lb<;>simp [h3,h4]
    ·cases lb<;>simp [h3,h4]
   ·cases lb<;>simp [h3]) (by
   rw [hlen];unfold Qls;rw [XK _ (by omega),show r.Nd.length - 1+1=r.Nd.length by omega,XZ];rfl)]
  have ea:(r.Nd.zip (r.Nd.drop 1)).any (fun q=>(decide (q.1=a)&&decide (q.2=b))&&Y0 p x.Nb r [a,b])=(ZX r a b&&Y0 p x.Nb r [a,b]):=by
   unfold ZX;cases Y0 p x.Nb r [a,b]<;>simp
  rcases ZY (p:=fun q:Int×Int=>(decide (q.1=a)&&decide (q.2=b))&&Y0 p x.Nb r [a,b]) (res:=fun _ _=>(Sum.inr (.inl true):Int⊕(Bool⊕Unit))) (r.Nd.zip (r.Nd.drop 1)) 0 with ⟨k1,k2⟩ | ⟨j,y,k1,k2,k3⟩
  ·rw [k1,<-ea,k2];rfl
  ·rw [k1,<-ea,k3];rfl
 rw [Zd p.Ni (fun r=>ZX r a b&&Y0 p x.Nb r [a,b]) (fun _ _=>true),Qp]
 ·rcases ZY (p:=fun r=>ZX r a b&&Y0 p x.Nb r [a,b]) (res:=fun _ _=>true) p.Ni 0 with ⟨k1,k2⟩ | ⟨j,y,k1,k2,k3⟩
  ·rw [k1,k2];rfl
  ·rw [k1,k3];rfl
 ·intro k hk;unfold Qri;rw [XY hk,cond_true,XE hk,Qp,inner _ (List.getElem_mem hk),XK k (by omega)];cases (ZX p.Ni[k] a b&&Y0 p x.Nb p.Ni[k] [a,b])<;>rfl
 ·unfold Qri;rw [XZ];rfl
/-! ### Which states are right -/
theorem QJf {x:Nh} {n:Nat} {s:Int}:decide (s∈(x.Na.take n).flatMap (·.Nc))=(x.Na.take n).any fun o=>decide (s∈o.Nc):=by
 rw [Bool.eq_iff_iff,decide_eq_true_eq,List.any_eq_true,List.mem_flatMap];simp only [decide_eq_true_eq]
theorem Qxr {p:Ng} (hS:PlantS p) (hp:PlantOk p) {x:Nh} (h:StateS x) (h2:x.Nb.length=p.Nb.length) (n:Nat) (hn:n < x.Na.length) (hf:((x.Na.take n).flatMap (·.Nc)).length<=1000 * n) :
    loop (Qhk x.Na[n] p x) ((x.Na.take n).flatMap (·.Nc),0)=some (match XF (Jg p x n x.Na[n]) x.Na[n].Nc.length with | some k=>.inl (.inr (.inl (Jg p x n x.Na[n] k))) | none=>.inr ((x.Na.take (n+1)).flatMap (·.Nc))):=by
  have hc:=h.ch _ (List.getElem_mem hn);have hl:=h.tr;have e1:(x.Na.take (n+1)).flatMap (·.Nc)=(x.Na.take n).flatMap (·.Nc)++x.Na[n].Nc:=by
    rw [<-Qif _ _ hn,List.flatMap_append];simp
  rw [e1];generalize hF:(x.Na.take n).flatMap (·.Nc)=F at hf ⊢;have hm:∀ s,decide (s∈F)=(x.Na.take n).any fun o=>decide (s∈o.Nc):=fun s=>by rw [<-hF];exact QJf
  have:=J8 (step:=Qhk x.Na[n] p x) (fun k=>(F++x.Na[n].Nc.take k,(k:Int))) x.Na[n].Nc.length (Jg p x n x.Na[n]) (fun _ e=>(.inr (.inl e):((List Int)×Int)⊕(Int⊕Unit))) (F++x.Na[n].Nc) (fun k hk _=>by
    have hs:Jg p x n x.Na[n] k=chE p x n x.Na[n] k x.Na[n].Nc[k]:=ZV _ _ _ hk;rw [hs];unfold Qhk chE;simp only [XY hk,cond_true,XE hk,Qp,Qxt hS];rw [Qoz _ _ (by simp;omega),Qp,Qae (by simp;omega),Qp,XK k (by omega),List.append_assoc,Qif _ _ hk,
      show decide (x.Na[n].Nc[k]∈F++x.Na[n].Nc.take k)=(decide (x.Na[n].Nc[k]∈x.Na[n].Nc.take k)||(x.Na.take n).any fun o=>decide (x.Na[n].Nc[k]∈o.Nc)) by
        rw [<-hm,Bool.eq_iff_iff];simp [or_comm]]
    cases Yu p x.Na[n].Nc[k]
    · rfl
    cases (decide (x.Na[n].Nc[k]∈x.Na[n].Nc.take k)||(x.Na.take n).any fun o=>decide (x.Na[n].Nc[k]∈o.Nc))
    · simp only [cond_true,decide_true,Bool.not_true,cond_false];by_cases hk0:k=0
      · subst hk0;rfl
      · rw [decide_eq_true (show (0:Int) < (k:Int) by omega),show w64 ((k:Int) - 1)=((k - 1:Nat):Int) by rw [Zg (by omega)];omega];simp only [cond_true,XE (show k - 1 < x.Na[n].Nc.length by omega),Qp,QNj hp h2,if_neg hk0,List.getElem?_eq_getElem (show k - 1 < x.Na[n].Nc.length by omega),Option.getD_some];cases JO p x.Nb x.Na[n].Nc[k - 1] x.Na[n].Nc[k]<;>rfl
    · rfl) (fun _=>by
    unfold Qhk;simp only [XZ,List.take_length];rfl)
  simp only [List.take_zero,List.append_nil,Int.natCast_zero] at this;exact this
theorem QNn {p:Ng} (hS:PlantS p) (hp:PlantOk p) {x:Nh} (h:StateS x):Qlq p x=some (Qfi p x):=by
  have h1:=h.sw;have h2:=h.tr;have hw4:=hp.w4;have ht3:=hp.t3;unfold Qlq Qfi;by_cases hl:x.Nb.length=p.Nb.length/\x.Na.length=p.Na.length
  · rw [if_pos hl,decide_eq_true (show (x.Nb.length:Int)=p.Nb.length by omega),decide_eq_true (show (x.Na.length:Int)=p.Na.length by omega)];simp only [Bool.not_true,Bool.or_self,cond_false];rw [Zd x.Nb (fun n=>!(YW n)) (fun _ _=>2) (fun k hk=>by
      unfold Qrg;rw [XY hk,cond_true,XE hk,Qp,Qrc,Qp,XK k (by omega)]) (by
      unfold Qrg;rw [XZ];rfl),Qp]
    have ea:x.Nb.any (fun n=>!(YW n))=!(x.Nb.all YW):=by
      rw [List.all_eq_not_any_not,Bool.not_not]
    rcases ZY (p:=fun n=>!(YW n)) (res:=fun _ _=>(2:Int)) x.Nb 0 with ⟨k1,k2⟩ | ⟨j,y,k1,k2,k3⟩
    · rw [k1];rw [ea,Bool.not_eq_false'] at k2;rw [k2,Bool.true_and];simp only [Xl];rw [show Qrh x.Nj=some (Qau x.Nj) from rfl,Qp];cases Qau x.Nj
      · rfl
      · simp only [Bool.not_true,cond_false,cond_true];have:=J8 (step:=Qlp p x) (fun n=>((x.Na.take n).flatMap (·.Nc),(n:Int))) x.Na.length (JB p x) (fun _ e=>e) () (fun n hn _=>by
          have hs:JB p x n=tsE p x n x.Na[n]:=ZV _ _ _ hn;have hf:∀ m,m<=x.Na.length->((x.Na.take m).flatMap (·.Nc)).length<=1000 * m:=fun m=>by
            induction m with
            | zero=>intro _;simp
            | succ m ih =>
              intro hm;rw [<-Qif _ _ (show m < x.Na.length by omega),List.flatMap_append,List.length_append];have:=ih (by omega);have:=h.ch _ (List.getElem_mem (show m < x.Na.length by omega));rw [show ([x.Na[m]]:List Nk).flatMap (·.Nc)=x.Na[m].Nc by simp];omega
          have hc:=h.ch _ (List.getElem_mem hn);rw [hs];unfold Qlp tsE;simp only [XY hn,cond_true,XE hn,Qp,Qbl];have eu:(((decide ((x.Na[n].Nc.length:Int)=0))&&(!decide (x.Na[n].Nf=0)))||((decide (0 < (x.Na[n].Nc.length:Int)))&&(!(decide (1<=x.Na[n].Nf)&&decide (x.Na[n].Nf<=(x.Na[n].Nc.length:Int))))))=!(JX x.Na[n]):=by
            unfold JX;by_cases h0:x.Na[n].Nc.length=0
            · rw [if_pos h0,decide_eq_true (show (x.Na[n].Nc.length:Int)=0 by omega),decide_eq_false (show ¬ (0:Int) < x.Na[n].Nc.length by omega)];simp
            · rw [if_neg h0,decide_eq_false (show ¬ (x.Na[n].Nc.length:Int)=0 by omega),decide_eq_true (show (0:Int) < x.Na[n].Nc.length by omega)];simp
          by_cases h0:x.Na[n].Nc.length=0
          · have g1:decide ((x.Na[n].Nc.length:Int)=0)=true:=decide_eq_true (by omega);have g2:decide ((0:Int) < x.Na[n].Nc.length)=false:=decide_eq_false (by omega);rw [g1,g2] at eu ⊢;simp only [Bool.and_false,cond_false,Qp,Bool.false_and,Bool.or_false] at eu ⊢;rw [eu];cases JX x.Na[n]
            · rfl
            · simp only [Bool.not_true,cond_false,cond_true];rw [Qxr hS hp h hl.1 n hn (hf n (by omega)),Qp];cases hfe:XF (Jg p x n x.Na[n]) x.Na[n].Nc.length with
              | some k=>rw [if_neg (J5 hfe).2.1];rfl
              | none=>rw [if_pos rfl];simp only [Xl];rw [XK n (by omega)]
          · have g1:decide ((x.Na[n].Nc.length:Int)=0)=false:=decide_eq_false (by omega);have g2:decide ((0:Int) < x.Na[n].Nc.length)=true:=decide_eq_true (by omega);rw [g1,g2] at eu ⊢;simp only [Bool.false_and,Bool.not_false,Bool.and_true,cond_true,Qp] at eu ⊢;rw [eu];cases JX x.Na[n]
            · rfl
            · simp only [Bool.not_true,cond_false,cond_true];rw [Qxr hS hp h hl.1 n hn (hf n (by omega)),Qp];cases hfe:XF (Jg p x n x.Na[n]) x.Na[n].Nc.length with
              | some k=>rw [if_neg (J5 hfe).2.1];rfl
              | none=>rw [if_pos rfl];simp only [Xl];rw [XK n (by omega)]) (fun _=>by
          unfold Qlp;simp only [XZ];rfl)
        simp only [List.take_zero,List.flatMap_nil,Int.natCast_zero] at this;rw [this,Qp];cases XF (JB p x) x.Na.length<;>rfl
    · rw [k1];rw [ea,Bool.not_eq_true'] at k3;rw [k3];rfl
  · rw [if_neg hl, show (!decide ((x.Nb.length : Int) = p.Nb.length) || !decide ((x.Na.length : Int) = p.Na.length)) = true by
      simp only [Bool.or_eq_true,Bool.not_eq_true',decide_eq_false_iff_not];omega]
    rfl
end Go.Gw

end
section
set_option maxRecDepth 4096
namespace Go.Gw
open Go
attribute [local irreducible] loop
/-! ### All events -/
/-! ### What lies in a list and meets a test -/
end Go.Gw

end
section
set_option maxRecDepth 4096
namespace Go.Gw
open Go
attribute [local irreducible] loop
theorem Qzb {α:Type} {p:α->Bool}:∀ (l:List α) (m:Nat),(Yd p (fun k _=>(k:Int)) m l=.inr ()/\l.any p=false)\/∃ j,∃ h:j < l.length,Yd p (fun k _=>(k:Int)) m l=.inl ((m+j:Nat):Int)/\p l[j]=true
 | [],m=>.inl ⟨rfl,rfl⟩
 | x::l,m=>by
  by_cases hp:p x=true
  ·exact .inr ⟨0,by simp,by simp [Yd,hp],by simpa using hp⟩
  ·rcases Qzb (p:=p) l (m+1) with ⟨h1,h2⟩ | ⟨j,hj,h1,h2⟩
   ·exact .inl ⟨by simp [Yd,hp,h1],by simp [hp,h2]⟩
   ·exact .inr ⟨j+1,by simpa using hj,by simp only [Yd,hp];rw [h1];simp;omega,by simpa using h2⟩
theorem QGk {α:Type} (p:α->Bool) (l:List α):(Qay p l=-1/\l.any p=false)\/∃ j,∃ h:j < l.length,Qay p l=(j:Int)/\p l[j]=true:=by
 unfold Qay;rcases Qzb (p:=p) l 0 with ⟨h1,h2⟩ | ⟨j,hj,h1,h2⟩
 ·exact .inl ⟨by rw [h1],h2⟩
 ·exact .inr ⟨j,hj,by rw [h1];simp,h2⟩
theorem Qxb {α:Type} {l:List α} (h:l.Nodup) {i j:Nat} (hi:i < l.length) (hj:j < l.length) (e:l[i]=l[j]):i=j:=by
 unfold List.Nodup at h;rw [List.pairwise_iff_getElem] at h;rcases Nat.lt_trichotomy i j with h1 | h1 | h1
 ·exact absurd e (h i j hi hj h1)
 ·exact h1
 ·exact absurd e.symm (h j i hj hi h1)
theorem QGo {p:Ng} (hp:PlantOk p) {x:Nh} (h2:x.Nb.length=p.Nb.length) (a b:Int):Qkj (some ⟨p,x⟩) a b=some (JO p x.Nb a b):=by
  have hw4:=hp.w4;have hr10:=hp.r10;have hs8:=hp.s8;unfold Qkj JO;rw [Qp,Zd p.Ni (fun r=>ZX r a b&&Y0 p x.Nb r [a,b]) (fun _ _=>true),Qp]
  · rcases ZY (p:=fun r=>ZX r a b&&Y0 p x.Nb r [a,b]) (res:=fun _ _=>true) p.Ni 0 with ⟨k1,k2⟩ | ⟨j,y,k1,k2,k3⟩
    · rw [k1,k2];rfl
    · rw [k1,k3];rfl
  · intro k hk;have hr:=List.getElem_mem hk;unfold Qqa;simp only [XY hk,cond_true,XE hk,Qp];generalize p.Ni[k]=r at hr ⊢;have hr2:=hp.r2 r hr;have hr8:=hp.r8 r hr;have hrd:=hp.rd r hr;rw [Qvf _ _ (by omega),Qp,Qvj (hp.rn r hr) h2 (by omega) (by simp),XK k (by omega)];rcases QGk (fun x=>decide (a=x)) r.Nd with ⟨h3,h4⟩ | ⟨j,hj,h3,h4⟩
    · rw [h3];have h5:ZX r a b=false:=by
        cases hb:ZX r a b with
        | false=>rfl
        | true =>
          obtain ⟨j,hj,h6,_⟩:=pairB_iff.1 hb;rw [Qtn,decide_eq_false_iff_not] at h4;exact absurd (h6▸List.getElem_mem _) h4
      rw [h5];rfl
    · rw [h3];have h4:a=r.Nd[j]:=by simpa using h4
      rw [decide_eq_true (show (0:Int)<=(j:Int) by omega),XK j (by omega)];by_cases h5:j+1 < r.Nd.length
      · rw [XY h5];simp only [Bool.and_self,cond_true];rw [XE h5,Qp];have h6:ZX r a b=decide (r.Nd[j+1]=b):=by
          rw [Bool.eq_iff_iff,pairB_iff,decide_eq_true_eq];constructor
          · rintro ⟨i,hi,h7,h8⟩;have:i=j:=Qxb hrd (by omega) hj (h7.trans h4);subst this;exact h8
          · intro h7;exact ⟨j,h5,h4.symm,h7⟩
        rw [h6];cases decide (r.Nd[j+1]=b)<;>rfl
      · rw [decide_eq_false (show ¬ ((j+1:Nat):Int) < r.Nd.length by omega)];have h6:ZX r a b=false:=by
          cases hb:ZX r a b with
          | false=>rfl
          | true =>
            obtain ⟨i,hi,h7,_⟩:=pairB_iff.1 hb;have:i=j:=Qxb hrd (by omega) hj (h7.trans h4);omega
        rw [h6];rfl
  · unfold Qqa;simp only [XZ];rfl
theorem Qut {α:Type} (g:α->Bool):∀ (l:List α) (k:Nat) (b:Bool),fld (fun (_:Nat) (a:Bool) (x:α)=>a||g x) k b l=(b||l.any g)
 | [],k,b=>by simp [fld]
 | x::l,k,b=>by
  unfold fld;rw [Qut g l];simp [Bool.or_assoc]
theorem QCc (l:List Nk) (h:∀ t∈l,t.Nc.length < 1000) (hl:l.length < 1000) (s:Int) (b:Bool):loop (Qgr s l) (b,0)=some (b||l.any fun o=>decide (s∈o.Nc)):=by
 have:=(Qwc (step:=Qgr s l) l (fun _ (c:Bool) o=>c||decide (s∈o.Nc)) (fun c k=>(c,(k:Int))) (fun c=>c) (fun _ _=>True) b trivial (fun k hk c _=>by
  refine ⟨?_,trivial⟩;unfold Qgr;simp only [XY hk,cond_true,XE hk,Qp,XK k (show k < 4611686018427387904 by omega),Qee _ _ (show l[k].Nc.length < 1000000 by have:=h _ (List.getElem_mem hk);omega)];cases c<;>rfl) (fun c _=>by
  unfold Qgr;simp only [XZ];rfl)).1
 rw [Qut] at this;exact this
theorem QRw (t:Nk):Js t.Nf (if (t.Nc.length:Int) < 1 then (t.Nc.length:Int) else 1) (t.Nc.length:Int)=some (JX t):=by
 rw [Qsw];congr 1;unfold JX;by_cases h0:t.Nc.length=0
 ·rw [if_pos h0,if_pos (show (t.Nc.length:Int) < 1 by omega),Bool.eq_iff_iff];simp only [Bool.and_eq_true,decide_eq_true_eq];omega
 ·rw [if_neg h0,if_neg (show ¬ (t.Nc.length:Int) < 1 by omega)]
theorem QGn {p:Ng} (hS:PlantS p) (hp:PlantOk p) {x:Nh} (h:StateS x) (h2:x.Nb.length=p.Nb.length) (n:Nat) (hn:n < x.Na.length):Qkh (some ⟨p,x⟩) (n:Int)=some (JB p x n):=by
  have hs:JB p x n=tsE p x n x.Na[n]:=ZV _ _ _ hn;have hc:=h.ch _ (List.getElem_mem hn);have hl:=h.tr;rw [hs];unfold Qkh tsE;simp only [Qp,XE hn];rw [QRw,Qp];cases JX x.Na[n]
  · rfl
  simp only [Bool.not_true,cond_false,cond_true];have key:loop (Qkg x.Na[n] (some ⟨p,x⟩) (n:Int)) 0=some (match XF (Jg p x n x.Na[n]) x.Na[n].Nc.length with | some i=>.inl (Jg p x n x.Na[n] i) | none=>.inr ()) :=
    J8 (fun k=>(k:Int)) x.Na[n].Nc.length (Jg p x n x.Na[n]) (fun _ e=>e) () (fun k hk _=>by
      have hs:Jg p x n x.Na[n] k=chE p x n x.Na[n] k x.Na[n].Nc[k]:=ZV _ _ _ hk;rw [hs];unfold Qkg chE;simp only [XY hk,cond_true,XE hk,Qp];rw [Qbm (by omega),Qp,Qee _ _ (by simp;omega),Qp,Qbm (by omega),Qp,
        QCc _ (fun t ht=>h.ch t (List.mem_of_mem_take ht)) (by simp;omega),Qp,Qyp hS,Qp,YC,Qp,XK k (by omega)]
      generalize (decide (x.Na[n].Nc[k]∈x.Na[n].Nc.take k)||(x.Na.take n).any fun o=>decide (x.Na[n].Nc[k]∈o.Nc))=bb;by_cases hk0:k=0
      · subst hk0;simp only [Int.natCast_zero,decide_true,Bool.not_true,cond_false,Qp,Bool.true_or,if_true,YC,cond_true];rw [ZL _ (by simp),Qp,Qek];cases Yu p x.Na[n].Nc[0]<;>cases bb<;>rfl
      · rw [decide_eq_false (show ¬ (k : Int) = 0 by omega), show w64 ((k : Int) - 1) = ((k - 1 : Nat) : Int) by rw [Zg (by omega)]; omega,
          show (if (0:Int) < ((k - 1:Nat):Int) then ((k - 1:Nat):Int) else 0)=((k - 1:Nat):Int) by split<;>omega]
        simp only [Bool.not_false,cond_true,XE (show k - 1 < x.Na[n].Nc.length by omega),Qp,QGo hp h2,if_neg hk0,List.getElem?_eq_getElem (show k - 1 < x.Na[n].Nc.length by omega),Option.getD_some,Bool.false_or,YC];rw [ZL _ (by simp),Qp,Qek];cases Yu p x.Na[n].Nc[k]<;>cases bb<;>cases JO p x.Nb x.Na[n].Nc[k - 1] x.Na[n].Nc[k]<;>rfl) (fun _=>by
      unfold Qkg;simp only [XZ];rfl)
  rw [key,Qp];cases XF (Jg p x n x.Na[n]) x.Na[n].Nc.length<;>rfl
theorem QNb (l:List Int) (hl:l.length < 1000):Qmn l=some (!(l.all YW)):=by
 unfold Qmn Qsa;rw [Zd l (fun n=>!(YW n)) (fun k _=>(k:Int)),Qp,Qfh,Qp,Qhz]
 ·rw [List.all_eq_not_any_not,Bool.not_not]
 ·intro k hk;unfold Qrz;rw [XY hk,XE hk,XK k (by omega)];rfl
 ·unfold Qrz;rw [XZ];rfl
def Qal (p:Ng) (x:Nh):Int:=if (Jx p).2=0 then Qfi p x else (Jx p).2
theorem QMp {p:Ng} (hS:PlantS p) {x:Nh} (h:StateS x):Qkp p x=some (if Qal p x=0 then (some ⟨p,x⟩,0) else (none,Qal p x)):=by
  have h1:=h.sw;have h2:=h.tr;have h3:=hS.sw;have h4:=hS.tr;unfold Qkp Qal;rw [QNb _ (by omega),Qp,QNa hS,Qp,YC,Qp,Bool.not_not];by_cases hp0:(Jx p).2=0
  · have hp:=Qrb hp0;simp only [if_pos hp0,hp0];unfold Qfi;by_cases hl:x.Nb.length=p.Nb.length/\x.Na.length=p.Na.length
    · rw [if_pos hl,decide_eq_true (show (x.Nb.length:Int)=p.Nb.length by omega),decide_eq_true (show (x.Na.length:Int)=p.Na.length by omega)];have e1:∀ (f:Bool->Option (Option Nm×Int)),(Option.bind (bif x.Nb.all YW then Qcl x.Nj else some default) f)=f (bif x.Nb.all YW then Qau x.Nj else default):=fun f=>by
        cases x.Nb.all YW<;>rfl
      rw [e1,YC,Qp,ZL _ (by simp),Qp,Qek];cases ha:x.Nb.all YW
      · rfl
      · cases hb:Qau x.Nj
        · rfl
        · simp only [Bool.and_self,cond_true,ne_eq,not_true_eq_false,if_false,decide_true,Bool.not_true,cond_false];have key:loop (Qko p x) 0=some (match XF (JB p x) x.Na.length with | some i=>.inl (none,JB p x i) | none=>.inr ()) :=
            J8 (fun k=>(k:Int)) x.Na.length (JB p x) (fun _ e=>(none,e)) () (fun k hk _=>by
              unfold Qko;rw [XY hk,cond_true,QGn hS hp h hl.1 k hk,Qp,XK k (by omega)];by_cases h5:JB p x k=0
              · rw [if_pos h5,decide_eq_true h5];rfl
              · rw [if_neg h5,decide_eq_false h5];rfl) (fun _=>by
              unfold Qko;rw [XZ];rfl)
          rw [key,Qp];cases hf:XF (JB p x) x.Na.length with
          | some i =>
            have h5:=(J5 hf).2.1;simp [Xl,h5]
          | none=>rfl
    · rw [if_neg hl, show (decide ((x.Nb.length : Int) = p.Nb.length) && decide ((x.Na.length : Int) = p.Na.length)) = false by
        rw [Bool.and_eq_false_iff,decide_eq_false_iff_not,decide_eq_false_iff_not];omega]
      have e1:∀ (f:Bool->Option (Option Nm×Int)),(Option.bind (bif x.Nb.all YW then Qcl x.Nj else some default) f)=f (bif x.Nb.all YW then Qau x.Nj else default):=fun f=>by
        cases x.Nb.all YW<;>rfl
      rw [e1,YC,Qp,ZL _ (by simp),Qp,Qek];rfl
  · simp only [if_neg hp0];have e1:∀ (f:Bool->Option (Option Nm×Int)),(Option.bind (bif x.Nb.all YW then Qcl x.Nj else some default) f)=f (bif x.Nb.all YW then Qau x.Nj else default):=fun f=>by
      cases x.Nb.all YW<;>rfl
    rw [e1,YC,Qp,ZL _ (by simp),Qp,Qek,if_pos hp0,decide_eq_false hp0];rfl
theorem Qxj {p:Ng} {x:Nh} (h:Qal p x=0):PlantOk p/\StateOk p x/\(Jx p).2=0:=by
 unfold Qal at h;by_cases hp0:(Jx p).2=0
 ·rw [if_pos hp0] at h;exact ⟨Qrb hp0,state_iff.1 h,hp0⟩
 ·rw [if_neg hp0] at h;exact absurd h hp0
def Qnw (p:Ng) (x:Nh) (e:Nq):Nh×Int:=if Qal p x=0 then (if evE p x e=0 then (Zx p x e,0) else (QAn,evE p x e)) else (QAn,Qal p x)
theorem QGm {p:Ng} (hS:PlantS p) {x:Nh} (h:StateS x) (e:Nq):Qjz p x e=some (Qnw p x e):=by
 unfold Qjz Qnw;rw [QMp hS h,Qp];by_cases h0:Qal p x=0
 ·obtain ⟨hp,hx,_⟩:=Qxj h0;simp only [if_pos h0,decide_true,cond_true];rw [QDw hS,Qp,Qp];unfold evE;by_cases h1:ZU p e=0
  ·obtain ⟨r,hr,h2,h3⟩:=QBr hp hx h1;simp only [if_pos h1,decide_eq_true h1,cond_true];rw [hr,Qp,Qp,h2];by_cases h4:JV p x e=0
   ·rw [if_pos h4,h3 h4,decide_eq_true h4];simp only [Bool.not_true,cond_false];rw [QRs p ((Qse hp hx h1 h4).s hp)];rfl
   ·rw [if_neg h4,decide_eq_false h4];rfl
  ·simp only [if_neg h1,decide_eq_false h1,cond_false,Qp,Bool.not_false,cond_true];rfl
 ·simp only [if_neg h0,decide_eq_false h0,cond_false,Qp,Bool.not_false,cond_true];rfl
/-! ### Telegrams -/
end Go.Gw

end
section
set_option maxRecDepth 4096
namespace Go.Gw
open Go
attribute [local irreducible] loop
theorem QCb {p:Ng} (hS:PlantS p) {x:Nh} (h:StateS x):Qjw p x=some (Qal p x):=by
 unfold Qjw Qal;rw [QNl hS,Qp];by_cases h0:(Jx p).2=0
 ·rw [if_pos h0,decide_eq_true h0,Bool.not_true,cond_false,QNn hS (Qrb h0) h];rfl
 ·rw [if_neg h0,decide_eq_false h0];rfl
theorem Qvk {p:Ng} {x:Nh} {F:Bool->Bool->Option Bool} (h0:∀ b,F false b=some true) (h1:F true false=some true) (h2:PlantS p->StateS x->(p.Nd.length<=4\/8 < p.Nd.length)->F true true=some true) :
  (Option.bind (Qem p) fun r=>Option.bind (bif !(!r) then Qen x else some default) fun s=>F r s)=some true:=by
 rcases QFj p with ⟨hf,hS,h8⟩ | hf
 ·rw [hf,Qp];rcases QFk x with ⟨hx,hX⟩ | hx
  ·simp only [Bool.not_true,Bool.not_false,cond_true];rw [hx,Qp];exact h2 hS hX h8
  ·simp only [Bool.not_true,Bool.not_false,cond_true];rw [hx,Qp];exact h1
 ·rw [hf,Qp];exact h0 _
end Go.Gw

end
