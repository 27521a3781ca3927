/- Laws of the walk. Condition: each theorem says its own. -/
import Derived.Test.YthonianbjkhnpaaGreatDoorGwAwakeLock
import Derived.Test.YthonianbjkhnpaaGreatDoorGwLawLockWays
set_option linter.unusedVariables false
set_option linter.unusedSimpArgs false
set_option linter.unusedSectionVars false
open Go.Gw.Runs renaming call→Ea,some→Eb,bif_t→Ef,bif_f→Eg,callR→Ei,loop→Eq_,eq→E2
open ByteArray renaming size_append→Ec,append_empty→ET,append_assoc→EU
open List renaming getElem_mem→Ed,range→Eh,take_length→Ej,getElem_drop→Ek,mem_cons_of_mem→El,getElem?_eq_getElem→En,flatMap_def→Ep,mem_iff_getElem→Eu,mem_of_mem_take→Ev,length_take→Ew,flatMap_append→Ey,ne_nil_of_length_pos→Ez,length_append→EA,mem_cons_self→EB,mem_map→EC,append_assoc→EF,foldl_append→EH,length_cons→EI,map_congr_left→EL,any_eq_false→EM,drop_eq_getElem_cons→EN,getElem_zip→EO,all_eq_not_any_not→EP,append_nil→EQ,foldl_cons→ER,take_of_length_le→ES,take_zero→EV,length_filter_le→EW,any_cons→EZ
open Bool renaming not_true→Ee,and_eq_true→Eo,and_eq_false_iff→Es,false_ne_true→ED,not_false→EE,not_eq_true'→EG,eq_iff_iff→EJ,false_or→E0,not_not→E1
open Nat renaming zero_le→Em,le_trans→Et,le_refl→Ex,succ_mul→EK,mul_le_mul_right→EX
open Option renaming bind→Er
section
set_option maxRecDepth 4096
namespace Go.Gw
open Go
attribute [local irreducible] loop
theorem Qut {x:Nd} (h:StateS x) (s:Int):Qhc x s=some (Ye x s):=by
 have h1:=h.tr;unfold Qhc Ye Qbk;rw [Ze x.Na (fun t=>decide (s∈t.Nc)) (fun k _=>(k:Int)),Qp,Qfo]
 ·intro k hk;unfold Quy;rw [Xw hk,cond_true,Xj hk,Qp,Qjb _ _ (by have:=h.ch _ (Ed hk);omega),Qp,Xf k (by omega)]
 ·unfold Quy;rw [Xy];rfl
theorem Qoj {p:Ng} (h:PlantS p) (n:Int):Qhd p n=some (bif Ya p n then 0 else 6):=by
 have:=h.se;unfold Qhd;rw [Qcr,Yy (by omega),Qp];show (bif !(Ya p n) then _ else _)=_;cases Ya p n<;>rfl
theorem Quv {p:Ng} (h:PlantS p) (n:Int):Qkh p n=some (bif Zl p n then 0 else 6):=by
 have:=h.tr;unfold Qkh;rw [Qcr,Yy (by omega),Qp];show (bif !(Zl p n) then _ else _)=_;cases Zl p n<;>rfl
theorem QDj {p:Ng} (h:PlantS p) (e:Nj):Qjz p e=some (YO p e):=by
  have h1:=h.sw;have h2:=h.ro;unfold Qjz YO;rw [Qcr,Qp];by_cases hk:0<=e.Kind/\e.Kind<=6
  · rw [if_neg (by omega),show (decide (0<=e.Kind)&&decide (e.Kind<=6))=true by simp [hk.1,hk.2]];simp only [Ee,cond_false];by_cases h2:e.Kind=2
    · rw [if_pos h2,decide_eq_true h2,cond_true,Qcr,Yy (by omega),Qp,Quq];show (bif !(Qhr p e.A) then _ else _)=_;cases Qhr p e.A<;>cases Y8 e.B<;>rfl
    · rw [if_neg h2,decide_eq_false h2,cond_false,Quv h,Qp,Qoj h,Qp,Qcr,Yy (by omega),Qp];cases Zl p e.A
      · rfl
      simp only [cond_true,decide_true,Ee,cond_false];by_cases h0:e.Kind=0
      · rw [if_pos h0,decide_eq_true h0];rfl
      · rw [if_neg h0,decide_eq_false h0,cond_false];by_cases h1:e.Kind=1
        · rw [if_pos h1,decide_eq_true h1,cond_true];show (bif !(Qhg p e.B) then _ else _)=_;cases Qhg p e.B<;>rfl
        · rw [if_neg h1,decide_eq_false h1,cond_false];by_cases h3:e.B=0
          · rw [if_pos h3,decide_eq_true h3];rfl
          · rw [if_neg h3,decide_eq_false h3];rfl
  · rw [if_pos hk, show (decide (0 <= e.Kind) && decide (e.Kind <= 6)) = false by
      rw [Es,decide_eq_false_iff_not,decide_eq_false_iff_not];omega]
    rfl
/-! ### Which section leads to which -/
theorem Qzj {α:Type} (g:α->Bool):∀ (l:List α) (k:Nat) (b:Bool),fld (fun (_:Nat) (a:Bool) (x:α)=>a&&!(g x)) k b l=(b&&!(l.any g))
 | [],k,b=>by simp [fld]
 | x::l,k,b=>by
  unfold fld;rw [Qzj g l];simp only [EZ];cases b<;>cases g x<;>simp
theorem QUr {p:Ng} {x:Nd} {r:Nr} {a b:Int} (h1:r.Ns.length=p.Nb.length) (h2:x.Nb.length=p.Nb.length) (h3:p.Nb.length < 1000):loop (Qki r p x b a) (true,0)=some (YH p x.Nb r [a,b]):=by
 have hlen:(p.Nb.zip (r.Ns.zip x.Nb)).length=p.Nb.length:=by simp [h1,h2]
 have:=(QBh (step:=Qki r p x b a) (p.Nb.zip (r.Ns.zip x.Nb)) (fun _ (c:Bool) q=>c&&!(Qfc [a,b] q)) (fun c k=>(c,(k:Int))) (fun c=>c) (fun _ _=>True) true trivial (fun k hk c _=>by
  rw [hlen] at hk;refine ⟨?_,trivial⟩;unfold Qki;simp only [Xw hk,cond_true,Xj hk,Qp,Xf k (show k < 4611686018427387904 by omega),Xj (show k < r.Ns.length by omega),Xj (show k < x.Nb.length by omega),EO,Qfc];generalize hs:p.Nb[k].Nn=s;by_cases ha:s=a
  ·subst ha;cases c
   ·simp
   ·by_cases hn:x.Nb[k]=r.Ns[k]
    ·simp [hn]
    ·simp [hn,Ne.symm hn]
  ·by_cases hb:s=b
   ·subst hb;cases c
    ·simp [ha,hs]
    ·by_cases hn:x.Nb[k]=r.Ns[k]
     ·simp [hn,ha,hs]
     ·simp [hn,Ne.symm hn,ha,hs]
   ·cases c<;>simp [ha,hb,hs]) (fun c _=>by
  rw [hlen];unfold Qki;simp only [Xy];rfl)).1
 rw [Qzj,Bool.true_and] at this;exact this
theorem QUq {p:Ng} (hp:PlantOk p) {x:Nd} (h2:x.Nb.length=p.Nb.length) (a b:Int):Qox p x a b=some (Qai p x.Nb a b):=by
 have hw4:=hp.w4;have hr10:=hp.r10;have hs8:=hp.s8;unfold Qox Qai;have inner:∀ r∈p.Ni,loop (Qow r p x b a) 0=some (if (Ju r a b&&YH p x.Nb r [a,b])=true then .inl (.inr (.inl true)) else .inr ()):=fun r hr=>by
  have hr2:=hp.r2 r hr;have hr8:=hp.r8 r hr;have hlen:(r.Nf.zip (r.Nf.drop 1)).length=r.Nf.length - 1:=by simp
  rw [Ze (r.Nf.zip (r.Nf.drop 1)) (fun q=>(decide (q.1=a)&&decide (q.2=b))&&YH p x.Nb r [a,b]) (fun _ _=>Sum.inr (.inl true)) (fun k hk=>by
   rw [hlen] at hk;unfold Qow;rw [Xf k (by omega),Xw (show k+1 < r.Nf.length by omega),cond_true,Xj (show k < r.Nf.length by omega),Qp,Xj (show k+1 < r.Nf.length by omega),QUr (hp.rn r hr) h2 (by omega)];simp only [EO,Ek,Qp];have e:r.Nf[1+k]'(by omega)=r.Nf[k+1]'(by omega) := by congr 1;omega
   rw [e];generalize YH p x.Nb r [a,b]=lb;by_cases h3:r.Nf[k]=a
   ·by_cases h4:r.Nf[k+1]=b
    ·cases lb<;>simp [h3,h4]
    ·cases lb<;>simp [h3,h4]
   ·cases lb<;>simp [h3]) (by
   rw [hlen];unfold Qow;rw [Xf _ (by omega),show r.Nf.length - 1+1=r.Nf.length by omega,Xy];rfl)]
  have ea:(r.Nf.zip (r.Nf.drop 1)).any (fun q=>(decide (q.1=a)&&decide (q.2=b))&&YH p x.Nb r [a,b])=(Ju r a b&&YH p x.Nb r [a,b]):=by
   unfold Ju;cases YH p x.Nb r [a,b]<;>simp
  rcases Z3 (p:=fun q:Int×Int=>(decide (q.1=a)&&decide (q.2=b))&&YH p x.Nb r [a,b]) (res:=fun _ _=>(Sum.inr (.inl true):Int⊕(Bool⊕Unit))) (r.Nf.zip (r.Nf.drop 1)) 0 with ⟨k1,k2⟩ | ⟨j,y,k1,k2,k3⟩
  ·rw [k1,<-ea,k2];rfl
  ·rw [k1,<-ea,k3];rfl
 rw [Ze p.Ni (fun r=>Ju r a b&&YH p x.Nb r [a,b]) (fun _ _=>true),Qp]
 ·rcases Z3 (p:=fun r=>Ju r a b&&YH p x.Nb r [a,b]) (res:=fun _ _=>true) p.Ni 0 with ⟨k1,k2⟩ | ⟨j,y,k1,k2,k3⟩
  ·rw [k1,k2];rfl
  ·rw [k1,k3];rfl
 ·intro k hk;unfold Qvf;rw [Xw hk,cond_true,Xj hk,Qp,inner _ (Ed hk),Xf k (by omega)];cases (Ju p.Ni[k] a b&&YH p x.Nb p.Ni[k] [a,b])<;>rfl
 ·unfold Qvf;rw [Xy];rfl
/-! ### Which states are right -/
theorem QQb {x:Nd} {n:Nat} {s:Int}:decide (s∈(x.Na.take n).flatMap (·.Nc))=(x.Na.take n).any fun o=>decide (s∈o.Nc):=by
 rw [EJ,decide_eq_true_eq,List.any_eq_true,List.mem_flatMap];simp only [decide_eq_true_eq]
theorem QDi {p:Ng} (hS:PlantS p) (hp:PlantOk p) {x:Nd} (h:StateS x) (h2:x.Nb.length=p.Nb.length) (n:Nat) (hn:n < x.Na.length) (hf:((x.Na.take n).flatMap (·.Nc)).length<=1000 * n) :
    loop (Qke x.Na[n] p x) ((x.Na.take n).flatMap (·.Nc),0)=some (match XH (JJ p x n x.Na[n]) x.Na[n].Nc.length with | some k=>.inl (.inr (.inl (JJ p x n x.Na[n] k))) | none=>.inr ((x.Na.take (n+1)).flatMap (·.Nc))):=by
  have hc:=h.ch _ (Ed hn);have hl:=h.tr;have e1:(x.Na.take (n+1)).flatMap (·.Nc)=(x.Na.take n).flatMap (·.Nc)++x.Na[n].Nc:=by
    rw [<-Qej _ _ hn,Ey];simp
  rw [e1];generalize hF:(x.Na.take n).flatMap (·.Nc)=F at hf ⊢;have hm:∀ s,decide (s∈F)=(x.Na.take n).any fun o=>decide (s∈o.Nc):=fun s=>by rw [<-hF];exact QQb
  have:=Qay (step:=Qke x.Na[n] p x) (fun k=>(F++x.Na[n].Nc.take k,(k:Int))) x.Na[n].Nc.length (JJ p x n x.Na[n]) (fun _ e=>(.inr (.inl e):((List Int)×Int)⊕(Int⊕Unit))) (F++x.Na[n].Nc) (fun k hk _=>by
    have hs:JJ p x n x.Na[n] k=chE p x n x.Na[n] k x.Na[n].Nc[k]:=Jq _ _ _ hk;rw [hs];unfold Qke chE;simp only [Xw hk,cond_true,Xj hk,Qp,Qoj hS];rw [Qjb _ _ (by simp;omega),Qp,Zp (by simp;omega),Qp,Xf k (by omega),EF,Qej _ _ hk,
      show decide (x.Na[n].Nc[k]∈F++x.Na[n].Nc.take k)=(decide (x.Na[n].Nc[k]∈x.Na[n].Nc.take k)||(x.Na.take n).any fun o=>decide (x.Na[n].Nc[k]∈o.Nc)) by
        rw [<-hm,EJ];simp [or_comm]]
    cases Ya p x.Na[n].Nc[k]
    · rfl
    cases (decide (x.Na[n].Nc[k]∈x.Na[n].Nc.take k)||(x.Na.take n).any fun o=>decide (x.Na[n].Nc[k]∈o.Nc))
    · simp only [cond_true,decide_true,Ee,cond_false];by_cases hk0:k=0
      · subst hk0;rfl
      · rw [decide_eq_true (show (0:Int) < (k:Int) by omega),show w64 ((k:Int) - 1)=((k - 1:Nat):Int) by rw [Yy (by omega)];omega];simp only [cond_true,Xj (show k - 1 < x.Na[n].Nc.length by omega),Qp,QUq hp h2,if_neg hk0,En (show k - 1 < x.Na[n].Nc.length by omega),Option.getD_some];cases Qai p x.Nb x.Na[n].Nc[k - 1] x.Na[n].Nc[k]<;>rfl
    · rfl) (fun _=>by
    unfold Qke;simp only [Xy,Ej];rfl)
  simp only [EV,EQ,Int.natCast_zero] at this;exact this
theorem QUu {p:Ng} (hS:PlantS p) (hp:PlantOk p) {x:Nd} (h:StateS x):Qot p x=some (Qhn p x):=by
  have h1:=h.sw;have h2:=h.tr;have hw4:=hp.w4;have ht3:=hp.t3;unfold Qot Qhn;by_cases hl:x.Nb.length=p.Nb.length/\x.Na.length=p.Na.length
  · rw [if_pos hl,decide_eq_true (show (x.Nb.length:Int)=p.Nb.length by omega),decide_eq_true (show (x.Na.length:Int)=p.Na.length by omega)];simp only [Ee,Bool.or_self,cond_false];rw [Ze x.Nb (fun n=>!(Y8 n)) (fun _ _=>2) (fun k hk=>by
      unfold Qva;rw [Xw hk,cond_true,Xj hk,Qp,Quq,Qp,Xf k (by omega)]) (by
      unfold Qva;rw [Xy];rfl),Qp]
    have ea:x.Nb.any (fun n=>!(Y8 n))=!(x.Nb.all Y8):=by
      rw [EP,E1]
    rcases Z3 (p:=fun n=>!(Y8 n)) (res:=fun _ _=>(2:Int)) x.Nb 0 with ⟨k1,k2⟩ | ⟨j,y,k1,k2,k3⟩
    · rw [k1];rw [ea,Bool.not_eq_false'] at k2;rw [k2,Bool.true_and];simp only [Xs];rw [show Qve x.Nh=some (Qas x.Nh) from rfl,Qp];cases Qas x.Nh
      · rfl
      · simp only [Ee,cond_false,cond_true];have:=Qay (step:=Qos p x) (fun n=>((x.Na.take n).flatMap (·.Nc),(n:Int))) x.Na.length (J5 p x) (fun _ e=>e) () (fun n hn _=>by
          have hs:J5 p x n=tsE p x n x.Na[n]:=Jq _ _ _ hn;have hf:∀ m,m<=x.Na.length->((x.Na.take m).flatMap (·.Nc)).length<=1000 * m:=fun m=>by
            induction m with
            | zero=>intro _;simp
            | succ m ih =>
              intro hm;rw [<-Qej _ _ (show m < x.Na.length by omega),Ey,EA];have:=ih (by omega);have:=h.ch _ (Ed (show m < x.Na.length by omega));rw [show ([x.Na[m]]:List Nm).flatMap (·.Nc)=x.Na[m].Nc by simp];omega
          have hc:=h.ch _ (Ed hn);rw [hs];unfold Qos tsE;simp only [Xw hn,cond_true,Xj hn,Qp,Qcr];have eu:(((decide ((x.Na[n].Nc.length:Int)=0))&&(!decide (x.Na[n].Nk=0)))||((decide (0 < (x.Na[n].Nc.length:Int)))&&(!(decide (1<=x.Na[n].Nk)&&decide (x.Na[n].Nk<=(x.Na[n].Nc.length:Int))))))=!(Qap x.Na[n]):=by
            unfold Qap;by_cases h0:x.Na[n].Nc.length=0
            · rw [if_pos h0,decide_eq_true (show (x.Na[n].Nc.length:Int)=0 by omega),decide_eq_false (show ¬ (0:Int) < x.Na[n].Nc.length by omega)];simp
            · rw [if_neg h0,decide_eq_false (show ¬ (x.Na[n].Nc.length:Int)=0 by omega),decide_eq_true (show (0:Int) < x.Na[n].Nc.length by omega)];simp
          by_cases h0:x.Na[n].Nc.length=0
          · have g1:decide ((x.Na[n].Nc.length:Int)=0)=true:=decide_eq_true (by omega);have g2:decide ((0:Int) < x.Na[n].Nc.length)=false:=decide_eq_false (by omega);rw [g1,g2] at eu ⊢;simp only [Bool.and_false,cond_false,Qp,Bool.false_and,Bool.or_false] at eu ⊢;rw [eu];cases Qap x.Na[n]
            · rfl
            · simp only [Ee,cond_false,cond_true];rw [QDi hS hp h hl.1 n hn (hf n (by omega)),Qp];cases hfe:XH (JJ p x n x.Na[n]) x.Na[n].Nc.length with
              | some k=>rw [if_neg (Qav hfe).2.1];rfl
              | none=>rw [if_pos rfl];simp only [Xs];rw [Xf n (by omega)]
          · have g1:decide ((x.Na[n].Nc.length:Int)=0)=false:=decide_eq_false (by omega);have g2:decide ((0:Int) < x.Na[n].Nc.length)=true:=decide_eq_true (by omega);rw [g1,g2] at eu ⊢;simp only [Bool.false_and,EE,Bool.and_true,cond_true,Qp] at eu ⊢;rw [eu];cases Qap x.Na[n]
            · rfl
            · simp only [Ee,cond_false,cond_true];rw [QDi hS hp h hl.1 n hn (hf n (by omega)),Qp];cases hfe:XH (JJ p x n x.Na[n]) x.Na[n].Nc.length with
              | some k=>rw [if_neg (Qav hfe).2.1];rfl
              | none=>rw [if_pos rfl];simp only [Xs];rw [Xf n (by omega)]) (fun _=>by
          unfold Qos;simp only [Xy];rfl)
        simp only [EV,List.flatMap_nil,Int.natCast_zero] at this;rw [this,Qp];cases XH (J5 p x) x.Na.length<;>rfl
    · rw [k1];rw [ea,EG] at k3;rw [k3];rfl
  · rw [if_neg hl, show (!decide ((x.Nb.length : Int) = p.Nb.length) || !decide ((x.Na.length : Int) = p.Na.length)) = true by
      simp only [Bool.or_eq_true,EG,decide_eq_false_iff_not];omega]
    rfl
end Go.Gw

end
section
set_option maxRecDepth 4096
namespace Go.Gw
open Go
attribute [local irreducible] loop
theorem QPq {α ρ:Type} {step:Int->Option (Int⊕(ρ⊕Unit))} (xs:List α) (p:α->Bool) (c:ρ) (h1:1<=xs.length)
  (hs:∀ k (hk:k < xs.length),1<=k->step (k:Int)=(bif p xs[k] then some (.inr (.inl c)) else some (.inl ((k+1:Nat):Int))))
  (he:step (xs.length:Int)=some (.inr (.inr ()))):loop step 1=some (if (xs.drop 1).any p=true then .inl c else .inr ()):=by
 have key:∀ j k,1<=k->j+k=xs.length->loop step (k:Int)=some (if (xs.drop k).any p=true then .inl c else .inr ()):=by
  intro j
  induction j with
  | zero =>
   grind [ZE,List.drop_length]
  | succ j ih =>
   intro k hk1 hk;have hlt:k < xs.length:=by omega
   rw [EN hlt,EZ];have:=hs k hlt hk1;cases hp:p xs[k] with
   | true=>grind [ZE]
   | false=>rw [hp] at this;rw [JC this,E0];grind
 exact key (xs.length - 1) 1 (by omega) (by omega)
def Qdp (q:Int×Int):Bool:=!decide (q.1=-1)&&!decide (q.1=q.2)
theorem QJa {p:Ng} {r:Nr} {sw:List Int} (h1:r.Ns.length=p.Nb.length) (h2:sw.length=p.Nb.length) (hx:(r.Ns.zip p.Nb).any (Qaj r)=false):(r.Ns.zip sw).any Qdp=!(YH p sw r r.Nf):=by
 rw [EM] at hx;have hn:∀ k (hk:k < p.Nb.length),(p.Nb[k].Nn∈r.Nf->r.Ns[k]≠-1)/\(p.Nb[k].Nn∉r.Nf->r.Ns[k]=-1):=fun k hk=>by
  have:=hx (r.Ns[k],p.Nb[k]) (Eu.2 ⟨k,by simp;omega,by simp⟩);unfold Qaj at this;by_cases hm:p.Nb[k].Nn∈r.Nf
  ·simp [hm] at this
   grind
  simp_all
 cases hl:YH p sw r r.Nf with
 | true =>
  rw [Ee,EM];intro q hq;obtain ⟨k,hk,rfl⟩:=List.getElem_of_mem hq;simp only [List.length_zip] at hk;simp only [EO,Qdp,Eo,EG,decide_eq_false_iff_not,not_and,Decidable.not_not]
  grind [absurd,liesB_iff]
 | false =>
  rw [EE];cases ha:(r.Ns.zip sw).any Qdp with
  | true=>rfl
  | false =>
   rw [EM] at ha;have:YH p sw r r.Nf=true:=liesB_iff.2 fun k k1 k2 k3 hm=>by
    have:=ha (r.Ns[k],sw[k]) (Eu.2 ⟨k,by simp;omega,by simp⟩);simp_all [Qdp,Eo,EG,decide_eq_false_iff_not,not_and,Decidable.not_not]
   simp_all
theorem Qsl {α:Type} {xs:List α} (h:0 < xs.length):idx xs 0=some xs[0]:=Xj (k:=0) h
theorem Quu {p:Ng} (hp:PlantOk p) {x:Nd} (h:StateOk p x) {e:Nj} (he:YO p e=0):Qkg p x e=some (if Zb p x e=0 then (X1 p x e,0) else (x,Zb p x e)):=by
  have hs:=h.s hp;have hw4:=hp.w4;have ht3:=hp.t3;have hkd:=Qix he;have hsl:=h.sw;have htl:=h.tr;unfold Qkg;by_cases h2:e.Kind=2
  · obtain ⟨a0,a1,a2⟩:=Qsd he h2;have e1:Zb p x e=(bif Zw x (Qfp p e).Nn then 17 else 0):=by unfold Zb;omega
    have e2:X1 p x e=⟨x.Nb.set e.A.toNat e.B,x.Na,x.Nh⟩:=by unfold X1;grind
    rw [e1,e2,Qwh a1,decide_eq_true h2,cond_true,Qmb hs,Qp,Qcv a0 a1,Qp,Qut hs,Qp,Qmo];cases Zw x p.Nb[e.A.toNat].Nn with
    | true=>rfl
    | false =>
      simp_all [Qcv,Qp,cond_false]
  obtain ⟨a0,a1,a2,a3,a4⟩:=Qsc he h2;have ha:e.A.toNat < x.Na.length:=by omega
  have htm:ZU x e∈x.Na:=by grind [Ed,Qhu]
  have hcl:=h.len htm;have hs8:=hp.s8;have hu:=h.un _ htm;have e2:X1 p x e=⟨x.Nb,x.Na.set e.A.toNat (trX p (ZU x e) e),x.Nh⟩:=by unfold X1;grind
  rw [e2,decide_eq_false h2,cond_false,Qmb hs,Qp];have hix:∀ {α:Type} (f:Nm->Option α),Er (idx x.Na e.A) f=f (ZU x e):=fun f=>by rw [Qcv a0 ha,Qp,Qhu ha]
  rw [hix];simp only [hix];unfold Zb trX;simp only [if_neg h2];generalize ZU x e=t at *
  by_cases h0:e.Kind=0
  · simp only [if_pos h0,decide_eq_true h0,cond_true];by_cases hc:t.Nc.length=0
    · rw [if_pos hc,decide_eq_false (show ¬ (0:Int) < t.Nc.length by omega),cond_false,Qut hs,Qp,Qmo]
      grind
    grind
  simp only [if_neg h0,decide_eq_false h0,cond_false];by_cases hc:t.Nc.length=0
  · simp_all
  rw [decide_eq_false (show ¬ (t.Nc.length:Int)=0 by omega),cond_false,if_neg hc];have hu2:1<=t.Nk/\t.Nk<=t.Nc.length:=by
    simp_all
  by_cases h1:e.Kind=1
  · simp only [if_pos h1,decide_eq_true h1,cond_true];obtain ⟨b0,b1⟩:=a3 h1;rw [Qcv b0 b1,Qp,<-Qkm b1];have hr:Qam p e∈p.Ni:=by grind [Ed,Qkm]
    generalize Qam p e=r at *
    have hr2:=hp.r2 r hr;have hr8:=hp.r8 r hr;have hrn:=hp.rn r hr;have hrx:=hp.rx r hr;rw [Qsl (show 0 < r.Nf.length by omega),Qp,
      show w64 ((t.Nc.length:Int) - 1)=((t.Nc.length - 1:Nat):Int) by grind [Yy],Xj (show t.Nc.length - 1 < t.Nc.length by omega),Qp,Qzr (by omega) (by omega)]
    by_cases h3:r.Nf.head?=t.Nc.getLast?
    · rw [if_pos h3,decide_eq_true h3,Ee,cond_false];have l0:loop (Qou r x x) 1=some (if (r.Nf.drop 1).any (Zw x)=true then .inl (.inl (x,17)) else .inr ()) :=
        QPq r.Nf (Zw x) _ (by omega) (fun k hk _=>by
          unfold Qou;rw [Xw hk,cond_true,Xj hk,Qp,Qut hs,Qp,Qmo,Xf k (by omega)]) (by
          simp_all [Xy,Qou])
      have hlen:(r.Ns.zip x.Nb).length=r.Ns.length:=by grind
      have l1:loop (Qkf r x x) 0=some (if (r.Ns.zip x.Nb).any Qdp=true then .inl (.inl (x,13)) else .inr ()):=by
        rw [Ze (step:=Qkf r x x) (r.Ns.zip x.Nb) Qdp (fun _ _=>.inl (x,13)) (fun k hk=>by
          rw [hlen] at hk;unfold Qkf;rw [Xw hk,cond_true,Xj hk,Qp,Xj (show k < x.Nb.length by omega),Xf k (by omega)]
          grind [decide,Qdp]) (by
          simp_all [Xy,Qkf])]
        grind [Z3,Qdp,Nd,Int,List]
      rw [l0,l1,QJa hrn hsl hrx];cases hb:(r.Nf.drop 1).any (Zw x) with
      | true=>rfl
      | false =>
        cases hl:YH p x.Nb r r.Nf with
        | false=>rfl
        | true =>
          simp only [Ee,Bool.false_eq_true,if_false,Qp,Xs,cond_false,cond_true,if_true]
          grind [Qip,Qey,Zp]
    · rw [if_neg h3,decide_eq_false h3];rfl
  simp only [if_neg h1,decide_eq_false h1,cond_false];by_cases h3:e.Kind=3
  · simp only [if_pos h3,decide_eq_true h3,cond_true];rw [if_neg (show ¬ e.Kind=4 by omega),if_pos (show e.Kind=3\/e.Kind=5 from .inl h3),Yy (by omega)];by_cases h5:t.Nk < t.Nc.length
    · rw [if_pos h5,decide_eq_false (show ¬ t.Nk=t.Nc.length by omega)];rfl
    · rw [if_neg h5,decide_eq_true (show t.Nk=t.Nc.length by omega)];rfl
  simp only [if_neg h3,decide_eq_false h3,cond_false];by_cases h4:e.Kind=4
  · simp only [if_pos h4,decide_eq_true h4,cond_true];rw [Yy (by omega)];by_cases h5:1 < t.Nk
    · rw [if_pos h5,decide_eq_false (show ¬ t.Nk=1 by omega),cond_false,Qip (by omega),Qp,Qey _ (by simp;omega)];rfl
    · rw [if_neg h5,decide_eq_true (show t.Nk=1 by omega)];rfl
  simp only [if_neg h4,decide_eq_false h4,cond_false];by_cases h5:e.Kind=5
  · simp only [if_pos h5,decide_eq_true h5,cond_true];rw [if_pos (show e.Kind=3\/e.Kind=5 from .inr h5)];by_cases h6:t.Nk < t.Nc.length
    · rw [if_pos h6,decide_eq_false (show ¬ t.Nk=t.Nc.length by omega),cond_false,show w64 ((t.Nc.length:Int) - 1)=((t.Nc.length - 1:Nat):Int) by grind [Yy],Qdq (by omega),Qp,Qey _ (by simp;omega)];rfl
    · rw [if_neg h6,decide_eq_true (show t.Nk=t.Nc.length by omega)];rfl
  simp only [if_neg h5,decide_eq_false h5,cond_false];rw [if_neg (show ¬ (e.Kind=3\/e.Kind=5) by omega),decide_eq_true (show e.Kind=6 by omega),cond_true];by_cases h6:t.Nc.length=1
  · rw [if_pos h6,decide_eq_false (show ¬ (1:Int) < t.Nc.length by omega)];rfl
  · rw [if_neg h6,decide_eq_true (show (1:Int) < t.Nc.length by omega)];rfl
theorem QUl {p:Ng} (hS:PlantS p) (hp:PlantOk p) {x:Nd} (h:StateOk p x) (e:Nj):Qok p x e=some (if evE p x e=0 then (X1 p x e,0) else (x,evE p x e)):=by
 unfold Qok evE;rw [QDj hS,Qp];by_cases h1:YO p e=0
 ·simp_all [if_pos,decide_eq_true,Ee,cond_false,Quu,Qp]
 simp_all
theorem QDm {β:Type} (f:Nat->List β) (n:Nat):∀ d:Nat,((Eh (n+d)).flatMap fun b=>if b < n then f b else [])=(Eh n).flatMap f
 | 0=>by
  rw [Nat.add_zero,Ep,Ep,EL fun b hb=>if_pos (List.mem_range.1 hb)]
 | d+1=>by
  rw [<-Nat.add_assoc,List.range_succ,Ey,QDm f n d];have h:¬ n+d < n:=by omega
  simp [h]
theorem QDn {β:Type} (f:Nat->List β) {n N:Nat} (h:n<=N):((Eh N).flatMap fun b=>if b < n then f b else [])=(Eh n).flatMap f:=by
 obtain ⟨d,rfl⟩:∃ d,N=n+d:=⟨N - n,by omega⟩;exact QDm f n d
def JE (a b:Nat):Nat:=if a < b then b else a
theorem Qtt (a b:Nat):(if (a:Int) < (b:Int) then (b:Int) else (a:Int))=((JE a b:Nat):Int):=by
 unfold JE
 grind
theorem QBl (a b:Nat):a<=JE a b/\b<=JE a b:=by grind [JE]
theorem Qtu {a b n:Nat} (ha:a<=n) (hb:b<=n):JE a b<=n:=by grind [JE]
theorem QUn {p:Ng} (hS:PlantS p) (hp:PlantOk p):Qoq p=some (Yd p):=by
  have hs8:=hp.s8;have ht3:=hp.t3;have hw4:=hp.w4;have hr10:=hp.r10;have hB:JE 2 (JE p.Nf.length p.Ni.length)<=10:=Qtu (by omega) (Qtu (by omega) (by omega));have hA:JE p.Na.length p.Nb.length<=4:=Qtu (by omega) (by omega);have eB:(if (2:Int) < (if (p.Nf.length:Int) < (p.Ni.length:Int) then (p.Ni.length:Int) else (p.Nf.length:Int)) then (if (p.Nf.length:Int) < (p.Ni.length:Int) then (p.Ni.length:Int) else (p.Nf.length:Int)) else 2)=((JE 2 (JE p.Nf.length p.Ni.length):Nat):Int):=by
    rw [Qtt];exact Qtt 2 _
  have eA:=Qtt p.Na.length p.Nb.length;generalize hBv:JE 2 (JE p.Nf.length p.Ni.length)=B at *
  generalize hAv:JE p.Na.length p.Nb.length=A at *
  have g:∀ k a b,(if YO p (Yc k a b)=0 then [Yc k a b] else []).length<=1:=fun k a b=>by grind
  have l0:∀ k:Nat,k < 7->∀ a:Nat,∀ acc:List Nj,acc.length<=1000->loop (Qka p (k:Int) (a:Int)) (acc,0)=some (acc++(Eh B).flatMap fun b=>if YO p (Yc k a b)=0 then [Yc k a b] else [])/\(acc++(Eh B).flatMap fun b=>if YO p (Yc k a b)=0 then [Yc k a b] else []).length<=acc.length+B * 1 :=
    fun k hk a acc hacc=>Qgw (step:=Qka p (k:Int) (a:Int)) B 1 (fun b=>if YO p (Yc k a b)=0 then [Yc k a b] else []) (fun b acc=>(acc,(b:Int))) (fun acc=>acc) acc (fun b _=>g k a b) (fun b hb acc' hl=>by
      unfold Qka;simp only [eB,Xw hb,cond_true];rw [show (Nj.mk (k:Int) (a:Int) (b:Int))=Yc k a b from rfl,QDj hS,Qp];by_cases h3:YO p (Yc k a b)=0
      · rw [decide_eq_true h3,cond_true,Zp (by simp;omega),Qp,Xf b (by omega),if_pos h3]
      · rw [decide_eq_false h3,cond_false,Xf b (by omega),if_neg h3,EQ]) (fun acc'=>by
      simp_all [Xy,Qka])
  have l1:∀ k:Nat,k < 7->∀ acc:List Nj,acc.length<=500->loop (Qkb p (k:Int)) (acc,0)=some (acc++(Eh A).flatMap fun a=>(Eh B).flatMap fun b=>if YO p (Yc k a b)=0 then [Yc k a b] else [])/\(acc++(Eh A).flatMap fun a=>(Eh B).flatMap fun b=>if YO p (Yc k a b)=0 then [Yc k a b] else []).length<=acc.length+A * 10 :=
    fun k hk acc hacc=>Qgw (step:=Qkb p (k:Int)) A 10 (fun a=>(Eh B).flatMap fun b=>if YO p (Yc k a b)=0 then [Yc k a b] else []) (fun a acc=>(acc,(a:Int))) (fun acc=>acc) acc (fun a ha=>by
      have:=(l0 k hk a [] (by simp)).2
      grind) (fun a ha acc' hl=>by
      have hl2:a * 10<=40:=by omega
      unfold Qkb;simp only [eA,Xw ha,cond_true]
      grind [Xf]) (fun acc'=>by
      simp_all [Xy,Qkb])
  have l2 : loop (Qop p) (([] : List Nj), 0) = _ := (Qgw (step := Qop p) 7 40 (fun k => (Eh A).flatMap fun a => (Eh B).flatMap fun b => if YO p (Yc k a b) = 0 then [Yc k a b] else []) (fun k acc => (acc, (k : Int))) (fun acc => acc) [] (fun k hk => by
      grind [List.length_nil]) (fun k hk acc hl=>by
      unfold Qop;simp only [show decide ((k:Int) < 7)=true by grind,cond_true];rw [(l1 k hk acc (by grind)).1,Qp,Xf k (by omega)]) (fun acc=>by rfl)).1
  unfold Qoq;rw [l2,Qp,List.nil_append];unfold Yd;congr 1;rw [Ep,Ep,EL fun k hk=>?_];have hk:=List.mem_range.1 hk;have hAs:ZA p k<=A:=by grind [QBl,ZA]
  have hBs:Y2 p k<=B:=by
    grind [QBl,JE,Y2]
  have e1:∀ a,((Eh B).flatMap fun b=>if YO p (Yc k a b)=0 then [Yc k a b] else [])=if a < ZA p k then ((Eh (Y2 p k)).flatMap fun b=>[Yc k a b]) else []:=fun a=>by
    by_cases ha:a < ZA p k
    · rw [if_pos ha,<-QDn (fun b=>[Yc k a b]) hBs];rw [Ep,Ep,EL fun b _=>?_];by_cases hb:b < Y2 p k
      · simp_all [if_pos,Qiw]
      simp_all [if_neg,Qiw]
    · rw [if_neg ha];rw [List.flatMap_eq_nil_iff];intro b _;rw [if_neg fun h=>ha ((Qiw hk).1 h).1]
  simp only [e1]
  grind [QDn,Eh,Y2,Yc]
/-! ### What lies in a list and meets a test -/
theorem Qzf {p:Ng} (hp:PlantOk p):(Yd p).length<=280:=by
 have hs8:=hp.s8;have ht3:=hp.t3;have hw4:=hp.w4;have hr10:=hp.r10;have hfl:∀ {β:Type} (f:Nat->List β) (M n:Nat),(∀ k,(f k).length<=M)->((Eh n).flatMap f).length<=n * M:=fun f M n h=>by
  induction n with
  | zero=>simp
  | succ n ih =>
   grind [List,Nat,List.range_succ,EA,EK]
 refine hfl _ 40 7 fun k=>?_;have h1:ZA p k<=4:=by grind [ZA]
 have h2:Y2 p k<=10:=by grind [Y2]
 have:=hfl (fun a=>(Eh (Y2 p k)).flatMap fun b=>[Yc k a b]) 10 (ZA p k) fun a=>by
  have:=hfl (fun b=>[Yc k a b]) 1 (Y2 p k) fun _=>by simp
  omega
 omega
end Go.Gw

end
section
set_option maxRecDepth 4096
namespace Go.Gw
open Go
attribute [local irreducible] loop
theorem QFf {α:Type} {p:α->Bool}:∀ (l:List α) (m:Nat),(Yw p (fun k _=>(k:Int)) m l=.inr ()/\l.any p=false)\/∃ j,∃ h:j < l.length,Yw p (fun k _=>(k:Int)) m l=.inl ((m+j:Nat):Int)/\p l[j]=true
 | [],m=>.inl ⟨rfl,rfl⟩
 | x::l,m=>by
  by_cases hp:p x=true
  ·exact .inr ⟨0,by simp,by simp [Yw,hp],by simpa using hp⟩
  ·rcases QFf (p:=p) l (m+1) with ⟨h1,h2⟩ | ⟨j,hj,h1,h2⟩
   ·exact .inl ⟨by simp [Yw,hp,h1],by simp [hp,h2]⟩
   ·exact .inr ⟨j+1,by simpa using hj,by simp only [Yw,hp];rw [h1];simp;omega,by simpa using h2⟩
theorem QNe {α:Type} (p:α->Bool) (l:List α):(Qbk p l=-1/\l.any p=false)\/∃ j,∃ h:j < l.length,Qbk p l=(j:Int)/\p l[j]=true:=by
 unfold Qbk;rcases QFf (p:=p) l 0 with ⟨h1,h2⟩ | ⟨j,hj,h1,h2⟩
 ·exact .inl ⟨by rw [h1],h2⟩
 ·exact .inr ⟨j,hj,by rw [h1];simp,h2⟩
theorem QCn {α:Type} {l:List α} (h:l.Nodup) {i j:Nat} (hi:i < l.length) (hj:j < l.length) (e:l[i]=l[j]):i=j:=by
 unfold List.Nodup at h;rw [List.pairwise_iff_getElem] at h;rcases Nat.lt_trichotomy i j with h1 | h1 | h1
 ·exact absurd e (h i j hi hj h1)
 ·exact h1
 ·exact absurd e.symm (h j i hj hi h1)
theorem QNj {p:Ng} (hp:PlantOk p) {x:Nd} (h2:x.Nb.length=p.Nb.length) (a b:Int):Qng (some ⟨p,x⟩) a b=some (Qai p x.Nb a b):=by
  have hw4:=hp.w4;have hr10:=hp.r10;have hs8:=hp.s8;unfold Qng Qai;rw [Qp,Ze p.Ni (fun r=>Ju r a b&&YH p x.Nb r [a,b]) (fun _ _=>true),Qp]
  · rcases Z3 (p:=fun r=>Ju r a b&&YH p x.Nb r [a,b]) (res:=fun _ _=>true) p.Ni 0 with ⟨k1,k2⟩ | ⟨j,y,k1,k2,k3⟩
    · rw [k1,k2];rfl
    · rw [k1,k3];rfl
  · intro k hk;have hr:=Ed hk;unfold Qtm;simp only [Xw hk,cond_true,Xj hk,Qp];generalize p.Ni[k]=r at hr ⊢;have hr2:=hp.r2 r hr;have hr8:=hp.r8 r hr;have hrd:=hp.rd r hr;rw [QAd _ _ (by omega),Qp,QAl (hp.rn r hr) h2 (by omega) (by simp),Xf k (by omega)];rcases QNe (fun x=>decide (a=x)) r.Nf with ⟨h3,h4⟩ | ⟨j,hj,h3,h4⟩
    · rw [h3];have h5:Ju r a b=false:=by
        cases hb:Ju r a b with
        | false=>rfl
        | true =>
          obtain ⟨j,hj,h6,_⟩:=pairB_iff.1 hb;rw [Qxu,decide_eq_false_iff_not] at h4;exact absurd (h6▸Ed _) h4
      rw [h5];rfl
    · rw [h3];have h4:a=r.Nf[j]:=by simpa using h4
      rw [decide_eq_true (show (0:Int)<=(j:Int) by omega),Xf j (by omega)];by_cases h5:j+1 < r.Nf.length
      · rw [Xw h5];simp only [Bool.and_self,cond_true];rw [Xj h5,Qp];have h6:Ju r a b=decide (r.Nf[j+1]=b):=by
          rw [EJ,pairB_iff,decide_eq_true_eq];constructor
          · rintro ⟨i,hi,h7,h8⟩;have:i=j:=QCn hrd (by omega) hj (h7.trans h4);subst this;exact h8
          · intro h7;exact ⟨j,h5,h4.symm,h7⟩
        rw [h6];cases decide (r.Nf[j+1]=b)<;>rfl
      · rw [decide_eq_false (show ¬ ((j+1:Nat):Int) < r.Nf.length by omega)];have h6:Ju r a b=false:=by
          cases hb:Ju r a b with
          | false=>rfl
          | true =>
            obtain ⟨i,hi,h7,_⟩:=pairB_iff.1 hb;have:i=j:=QCn hrd (by omega) hj (h7.trans h4);omega
        rw [h6];rfl
  · unfold Qtm;simp only [Xy];rfl
theorem Qzk {α:Type} (g:α->Bool):∀ (l:List α) (k:Nat) (b:Bool),fld (fun (_:Nat) (a:Bool) (x:α)=>a||g x) k b l=(b||l.any g)
 | [],k,b=>by simp [fld]
 | x::l,k,b=>by
  unfold fld;rw [Qzk g l];simp [Bool.or_assoc]
theorem QIt (l:List Nm) (h:∀ t∈l,t.Nc.length < 1000) (hl:l.length < 1000) (s:Int) (b:Bool):loop (Qjh s l) (b,0)=some (b||l.any fun o=>decide (s∈o.Nc)):=by
 have:=(QBh (step:=Qjh s l) l (fun _ (c:Bool) o=>c||decide (s∈o.Nc)) (fun c k=>(c,(k:Int))) (fun c=>c) (fun _ _=>True) b trivial (fun k hk c _=>by
  refine ⟨?_,trivial⟩;unfold Qjh;simp only [Xw hk,cond_true,Xj hk,Qp,Xf k (show k < 4611686018427387904 by omega),Qex _ _ (show l[k].Nc.length < 1000000 by have:=h _ (Ed hk);omega)];cases c<;>rfl) (fun c _=>by
  unfold Qjh;simp only [Xy];rfl)).1
 rw [Qzk] at this;exact this
theorem QZk (t:Nm):JV t.Nk (if (t.Nc.length:Int) < 1 then (t.Nc.length:Int) else 1) (t.Nc.length:Int)=some (Qap t):=by
 rw [Qwy];congr 1;unfold Qap;by_cases h0:t.Nc.length=0
 ·rw [if_pos h0,if_pos (show (t.Nc.length:Int) < 1 by omega),EJ];simp only [Eo,decide_eq_true_eq];omega
 ·rw [if_neg h0,if_neg (show ¬ (t.Nc.length:Int) < 1 by omega)]
theorem QNg {p:Ng} (hS:PlantS p) (hp:PlantOk p) {x:Nd} (h:StateS x) (h2:x.Nb.length=p.Nb.length) (n:Nat) (hn:n < x.Na.length):Qne (some ⟨p,x⟩) (n:Int)=some (J5 p x n):=by
  have hs:J5 p x n=tsE p x n x.Na[n]:=Jq _ _ _ hn;have hc:=h.ch _ (Ed hn);have hl:=h.tr;rw [hs];unfold Qne tsE;simp only [Qp,Xj hn];rw [QZk,Qp];cases Qap x.Na[n]
  · rfl
  simp only [Ee,cond_false,cond_true];have key:loop (Qnd x.Na[n] (some ⟨p,x⟩) (n:Int)) 0=some (match XH (JJ p x n x.Na[n]) x.Na[n].Nc.length with | some i=>.inl (JJ p x n x.Na[n] i) | none=>.inr ()) :=
    Qay (fun k=>(k:Int)) x.Na[n].Nc.length (JJ p x n x.Na[n]) (fun _ e=>e) () (fun k hk _=>by
      have hs:JJ p x n x.Na[n] k=chE p x n x.Na[n] k x.Na[n].Nc[k]:=Jq _ _ _ hk;rw [hs];unfold Qnd chE;simp only [Xw hk,cond_true,Xj hk,Qp];rw [Qdq (by omega),Qp,Qex _ _ (by simp;omega),Qp,Qdq (by omega),Qp,
        QIt _ (fun t ht=>h.ch t (Ev ht)) (by simp;omega),Qp,Qvp hS,Qp,Y5,Qp,Xf k (by omega)]
      generalize (decide (x.Na[n].Nc[k]∈x.Na[n].Nc.take k)||(x.Na.take n).any fun o=>decide (x.Na[n].Nc[k]∈o.Nc))=bb;by_cases hk0:k=0
      · subst hk0;simp only [Int.natCast_zero,decide_true,Ee,cond_false,Qp,Bool.true_or,if_true,Y5,cond_true];rw [JB _ (by simp),Qp,Qct];cases Ya p x.Na[n].Nc[0]<;>cases bb<;>rfl
      · rw [decide_eq_false (show ¬ (k : Int) = 0 by omega), show w64 ((k : Int) - 1) = ((k - 1 : Nat) : Int) by rw [Yy (by omega)]; omega,
          show (if (0:Int) < ((k - 1:Nat):Int) then ((k - 1:Nat):Int) else 0)=((k - 1:Nat):Int) by split<;>omega]
        simp only [EE,cond_true,Xj (show k - 1 < x.Na[n].Nc.length by omega),Qp,QNj hp h2,if_neg hk0,En (show k - 1 < x.Na[n].Nc.length by omega),Option.getD_some,E0,Y5];rw [JB _ (by simp),Qp,Qct];cases Ya p x.Na[n].Nc[k]<;>cases bb<;>cases Qai p x.Nb x.Na[n].Nc[k - 1] x.Na[n].Nc[k]<;>rfl) (fun _=>by
      unfold Qnd;simp only [Xy];rfl)
  rw [key,Qp];cases XH (JJ p x n x.Na[n]) x.Na[n].Nc.length<;>rfl
theorem QUc (l:List Int) (hl:l.length < 1000):Qpq l=some (!(l.all Y8)):=by
 unfold Qpq Qvw;rw [Ze l (fun n=>!(Y8 n)) (fun k _=>(k:Int)),Qp,Qfo,Qp,Qku]
 ·rw [EP,E1]
 ·intro k hk;unfold Qvv;rw [Xw hk,Xj hk,Xf k (by omega)];rfl
 ·unfold Qvv;rw [Xy];rfl
def ZG (p:Ng) (x:Nd):Int:=if (JX p).2=0 then Qhn p x else (JX p).2
theorem QCz {p:Ng} (hS:PlantS p) {x:Nd} (h:StateS x):Qnm p x=some (if ZG p x=0 then (some ⟨p,x⟩,0) else (none,ZG p x)):=by
  have h1:=h.sw;have h2:=h.tr;have h3:=hS.sw;have h4:=hS.tr;unfold Qnm ZG;rw [QUc _ (by omega),Qp,QUb hS,Qp,Y5,Qp,E1];by_cases hp0:(JX p).2=0
  · have hp:=Qup hp0;simp only [if_pos hp0,hp0];unfold Qhn;by_cases hl:x.Nb.length=p.Nb.length/\x.Na.length=p.Na.length
    · rw [if_pos hl,decide_eq_true (show (x.Nb.length:Int)=p.Nb.length by omega),decide_eq_true (show (x.Na.length:Int)=p.Na.length by omega)];have e1:∀ (f:Bool->Option (Option Np×Int)),(Er (bif x.Nb.all Y8 then Qdw x.Nh else some default) f)=f (bif x.Nb.all Y8 then Qas x.Nh else default):=fun f=>by
        cases x.Nb.all Y8<;>rfl
      rw [e1,Y5,Qp,JB _ (by simp),Qp,Qct];cases ha:x.Nb.all Y8
      · rfl
      · cases hb:Qas x.Nh
        · rfl
        · simp only [Bool.and_self,cond_true,ne_eq,not_true_eq_false,if_false,decide_true,Ee,cond_false];have key:loop (Qnl p x) 0=some (match XH (J5 p x) x.Na.length with | some i=>.inl (none,J5 p x i) | none=>.inr ()) :=
            Qay (fun k=>(k:Int)) x.Na.length (J5 p x) (fun _ e=>(none,e)) () (fun k hk _=>by
              unfold Qnl;rw [Xw hk,cond_true,QNg hS hp h hl.1 k hk,Qp,Xf k (by omega)];by_cases h5:J5 p x k=0
              · rw [if_pos h5,decide_eq_true h5];rfl
              · rw [if_neg h5,decide_eq_false h5];rfl) (fun _=>by
              unfold Qnl;rw [Xy];rfl)
          rw [key,Qp];cases hf:XH (J5 p x) x.Na.length with
          | some i =>
            have h5:=(Qav hf).2.1;simp [Xs,h5]
          | none=>rfl
    · rw [if_neg hl, show (decide ((x.Nb.length : Int) = p.Nb.length) && decide ((x.Na.length : Int) = p.Na.length)) = false by
        rw [Es,decide_eq_false_iff_not,decide_eq_false_iff_not];omega]
      have e1:∀ (f:Bool->Option (Option Np×Int)),(Er (bif x.Nb.all Y8 then Qdw x.Nh else some default) f)=f (bif x.Nb.all Y8 then Qas x.Nh else default):=fun f=>by
        cases x.Nb.all Y8<;>rfl
      rw [e1,Y5,Qp,JB _ (by simp),Qp,Qct];rfl
  · simp only [if_neg hp0];have e1:∀ (f:Bool->Option (Option Np×Int)),(Er (bif x.Nb.all Y8 then Qdw x.Nh else some default) f)=f (bif x.Nb.all Y8 then Qas x.Nh else default):=fun f=>by
      cases x.Nb.all Y8<;>rfl
    rw [e1,Y5,Qp,JB _ (by simp),Qp,Qct,if_pos hp0,decide_eq_false hp0];rfl
theorem QDa {p:Ng} {x:Nd} (h:ZG p x=0):PlantOk p/\StateOk p x/\(JX p).2=0:=by
 unfold ZG at h;by_cases hp0:(JX p).2=0
 ·rw [if_pos hp0] at h;exact ⟨Qup hp0,state_iff.1 h,hp0⟩
 ·rw [if_neg hp0] at h;exact absurd h hp0
end Go.Gw

end
section
set_option maxRecDepth 4096
namespace Go.Gw
open Go
attribute [local irreducible] loop
theorem QFh (x:Nd):Nd.mk x.Nb x.Na x.Nh=x:=rfl
theorem Qro {p:Ng} (hS:PlantS p) {x:Nd} (h:StateS x):Qjd p x=some (ZG p x):=by
 unfold Qjd ZG;rw [QUs hS,Qp];by_cases h0:(JX p).2=0
 ·rw [if_pos h0,decide_eq_true h0,Ee,cond_false,QUu hS (Qup h0) h];rfl
 ·rw [if_neg h0,decide_eq_false h0];rfl
theorem QOa {p:Ng} {x:Nd} {F:Bool->Bool->Option Bool} (h0:∀ b,F false b=some true) (h1:F true false=some true) (h2:PlantS p->StateS x->(p.Nf.length<=4\/8 < p.Nf.length)->F true true=some true) :
  (Er (Qfb p) fun r=>Er (bif !(!r) then Qgo x else some default) fun s=>F r s)=some true:=by
 rcases Qzg p with ⟨hf,hS,h8⟩ | hf
 ·rw [hf,Qp];rcases QLx x with ⟨hx,hX⟩ | hx
  ·simp only [Ee,EE,cond_true];rw [hx,Qp];exact h2 hS hX h8
  ·simp only [Ee,EE,cond_true];rw [hx,Qp];exact h1
 ·rw [hf,Qp];exact h0 _
end Go.Gw

end
section
set_option maxRecDepth 4096
namespace Go.Gw
open Go
attribute [local irreducible] loop
def YX (l:List ByteArray):ByteArray:=l.foldl (·++·) ByteArray.empty
theorem Qyi (l:List ByteArray) (x:ByteArray):YX (l++[x])=YX l++x:=by simp [YX,EH]
theorem QIv {m:Nat}:∀ {l:List ByteArray},(∀ s∈l,s.size<=m)->(YX l).size<=l.length * m:=by
 have key:∀ (l:List ByteArray) (a:ByteArray),(∀ s∈l,s.size<=m)->(l.foldl (·++·) a).size<=a.size+l.length * m:=by
  intro l
  induction l with
  | nil=>intro a _;simp
  | cons x l ih =>
   intro a h;have h1:=ih (a++x) fun s hs=>h s (El _ hs)
   have h2:=h x (EB ..);rw [Ec] at h1;rw [ER,EI,EK];omega
 intro l h;have:=key l ByteArray.empty h;simpa [YX] using this
def YY (sep:ByteArray):List ByteArray->ByteArray
 | []=>ByteArray.empty
 | a::l=>l.foldl (fun r x=>r++sep++x) a
theorem Qsq {sep:ByteArray} {l:List ByteArray} (h:l≠[]) (x:ByteArray):YY sep (l++[x])=YY sep l++sep++x:=by
 cases l with
 | nil=>exact absurd rfl h
 | cons a l=>simp [YY,EH]
theorem Qsp {sep:ByteArray} {m:Nat} (hs:sep.size<=1):∀ {l:List ByteArray},(∀ s∈l,s.size<=m)->(YY sep l).size<=l.length * (m+1):=by
 have key:∀ (l:List ByteArray) (a:ByteArray),(∀ s∈l,s.size<=m)->(l.foldl (fun r x=>r++sep++x) a).size<=a.size+l.length * (m+1):=by
  intro l
  induction l with
  | nil=>intro a _;simp
  | cons x l ih =>
   intro a h;have h1:=ih (a++sep++x) fun s hs=>h s (El _ hs)
   have h2:=h x (EB ..);rw [Ec,Ec] at h1;rw [ER,EI,EK];omega
 intro l h;cases l with
 | nil=>simp [YY]
 | cons a l =>
  have h1:=key l a fun s hs=>h s (El _ hs)
  have h2:=h a (EB ..);rw [EI,EK];show (l.foldl (fun r x=>r++sep++x) a).size<=_;omega
theorem Qau {a b:ByteArray} (h:a.size+b.size<=1048576):ZP a b=some (a++b):=by unfold ZP;rw [if_pos h]
theorem QAe {l:List ByteArray} {sep:ByteArray} (hs:sep.size=1) (hl:l.length<=1000) (hm:∀ s∈l,s.size<=100000):Qhp l sep=some (YY sep l):=by
  refine E2 ?_;unfold Qhp;by_cases h0:l.length=0
  · have:l=[]:=List.length_eq_zero_iff.1 h0;subst this;exact Ef rfl (Eb rfl)
  refine Eg (by simp;intro e;subst e;exact h0 rfl) ?_;by_cases h1:l.length=1
  · refine Ef (by rw [h1];rfl) (Ea (Qsl (by omega)) (Eb ?_));obtain ⟨a,rfl⟩:=List.length_eq_one_iff.1 h1;rfl
  refine Eg (by rw [decide_eq_false];omega) ?_;have e1:w64 ((l.length:Int) - 1)=((l.length - 1:Nat):Int):=by rw [Yy (by omega)];omega
  rw [hs,e1];refine Ei (R:=fun x=>x=((l.length - 1:Nat):Int)) (Ef rfl (Ea (QUj (by omega)) (Ei (R:=fun _=>True) (Eg ?_ (Eb trivial)) fun _ _=>Eb ?_))) ?_
  · refine decide_eq_false ?_;have h2:Int.tdiv 9223372036854775807 ((l.length - 1:Nat):Int)=((9223372036854775807 / (l.length - 1):Nat):Int):=rfl;have h3:9223372036854775807 / (l.length - 1)<=9223372036854775807:=Nat.div_le_self _ _;have h4:1000<=9223372036854775807 / (l.length - 1):=by
      rw [Nat.le_div_iff_mul_le (by omega)];omega
    rw [h2,Yy (by omega)];omega
  · rw [Yy (x:=((1:Nat):Int) * ((l.length - 1:Nat):Int)) (by omega),Yy (by omega)];omega
  rintro _ rfl;refine Ei (R:=fun x=>0<=x/\x<=1000+100000 * 1000) (Eq_ (fun s=>∃ k:Nat,s.2=(k:Int)/\k<=l.length/\0<=s.1/\s.1<=1000+100000 * (k:Int)) (fun s=>l.length - s.2.toNat) ⟨0,rfl,Em _,by show (0:Int)<=((l.length - 1:Nat):Int);omega,by show ((l.length - 1:Nat):Int)<=_;omega⟩ ?_) ?_
  · rintro ⟨x,_⟩ ⟨k,rfl,hk,h2,h3⟩;dsimp only at h2 h3;unfold QFo;by_cases hlt:k < l.length
    · have h4:=hm _ (Ed hlt);refine Ef (Xw hlt) (Ea (Xj hlt) (Eg ?_ (Eb ⟨⟨k+1,?_,by omega,?_,?_⟩,?_⟩)))
      · rw [Yy (by omega)];exact decide_eq_false (by omega)
      · exact Xf k (by omega)
      · show 0<=w64 (x+(l[k].size:Int));rw [Yy (by omega)];omega
      · show w64 (x+(l[k].size:Int))<=_;rw [Yy (by omega)];omega
      · show l.length - (w64 ((k:Int)+1)).toNat < l.length - ((k:Nat):Int).toNat;rw [Xf k (by omega)];simp;omega
    · have:k=l.length:=by omega
      subst this;refine Eg (Xy _) (Eb ⟨h2,?_⟩);show x<=_;omega
  rintro x ⟨h2,h3⟩;have hg:grw x=some ():=by unfold grw;rw [if_pos (by omega)]
  refine Ea hg (Ea (Qsl (by omega)) (Ea (Zp (by rw [ZY];have:=hm _ (Ed (show 0 < l.length by omega));simp;omega)) ?_));have hcut:cut l 1 (l.length:Int)=some (l.drop 1):=Qip (by omega);refine Ea hcut ?_;have hjs:∀ k,k<=l.length->(YY sep (l.take k)).size<=1000 * 100001:=fun k hk=>by
    have:=Qsp (sep:=sep) (m:=100000) (by omega) (l:=l.take k) fun s hs=>hm s (Ev hs)
    have h5:(l.take k).length<=1000:=by simp;omega
    exact Et this (EX _ h5)
  refine Runs.bind (Runs.mono (Q:=fun xs=>xs=bl (YY sep l)) (Eq_ (fun s=>∃ k:Nat,s=((k:Int),bl (YY sep (l.take (k+1))))/\k+1<=l.length) (fun s=>l.length - s.1.toNat) ⟨0,?_,by omega⟩ ?_) ?_)
  · have : l.take (0 + 1) = [l[0]'(by omega)] := by
      cases l with
      | nil=>exact absurd rfl h0
      | cons a l=>rfl
    rw [this];rfl
  · rintro _ ⟨k,rfl,hk⟩;unfold QFp;have hdl:(l.drop 1).length=l.length - 1:=by simp
    by_cases hlt:k+1 < l.length
    · have h4:=hm _ (Ed hlt);have h5:=hjs (k+1) hk;have h6:((l.drop 1)[k]'(by omega)).size<=100000 := by rw [Ek];exact hm _ (Ed _)
      have h7:(bl (YY sep (l.take (k+1)))).length+(bl sep).length<=1073741824:=by rw [ZY,ZY,hs];omega
      have h8:(bl (YY sep (l.take (k+1)))++bl sep).length+(bl ((l.drop 1)[k]'(by omega))).length<=1073741824 := by rw [EA, ZY, ZY, ZY, hs];omega
      refine Ef (Xw (by omega)) (Ea (Xj (xs:=l.drop 1) (by omega)) (Ea (Zp h7) (Ea (Zp h8) (Eb ⟨⟨k+1,?_,by omega⟩,?_⟩))))
      · rw [Xf k (by omega),<-Qrl,<-Qrl,<-Qsq (Ez (by rw [Ew];omega))];have:l.take (k+1)++[(l.drop 1)[k]'(by omega)]=l.take (k+1+1) := by
          rw [Ek,<-Qej l (k+1) hlt];simp only [Nat.add_comm]
        rw [this]
      · show l.length - (w64 ((k:Int)+1)).toNat < l.length - ((k:Nat):Int).toNat;rw [Xf k (by omega)];simp;omega
    · refine Eg ?_ (Eb ?_)
      · have:k=(l.drop 1).length:=by omega
        subst this;exact Xy _
      · show bl (YY sep (l.take (k+1)))=_;rw [ES (by omega)]
  · rintro _ rfl;exact Eb (QCu _)
/-! ### The text -/
noncomputable def X6 (n:Int):ByteArray:=(Qbx n).getD ByteArray.empty
structure DecOk (n:Int):Prop where
 i:Qao n=some (X6 n)
 d:Qbx n=some (X6 n)
 s:(X6 n).size<=20
theorem QJk:∀ n:Fin 100,(match Qao ((n.val:Nat):Int),Qbx ((n.val:Nat):Int) with
  | some a,some b=>decide (a=b)&&decide (a.size<=20)
  | _,_=>false)=true:=by decide +kernel
theorem Qrw {n:Int} (h0:0<=n) (h:n < 100):DecOk n:=by
 have:=QJk ⟨n.toNat,by omega⟩;rw [show ((((⟨n.toNat,by omega⟩:Fin 100).val:Nat)):Int)=n by show ((n.toNat:Nat):Int)=n;omega] at this;cases hi:Qao n with
 | none=>rw [hi] at this;cases this
 | some a =>
  cases hd:Qbx n with
  | none=>rw [hi,hd] at this;cases this
  | some b =>
   rw [hi,hd] at this;simp only [Eo,decide_eq_true_eq] at this;have hb:X6 n=b:=by unfold X6;rw [hd];rfl
   exact ⟨by rw [hb,hi,this.1],by rw [hb,hd],by rw [hb,<-this.1];exact this.2⟩
theorem QNc:Qao 0=some ⟨#[48]⟩:=by decide +kernel
theorem QNd:Qao 1=some ⟨#[49]⟩:=by decide +kernel
def Ym (n:Int):ByteArray:=if n=0 then ⟨#[48]⟩ else if n=1 then ⟨#[49]⟩ else ⟨#[63]⟩
theorem QYi (n:Int):(Ym n).size=1:=by
 unfold Ym;by_cases h:n=0
 ·rw [if_pos h];rfl
 ·rw [if_neg h];by_cases h':n=1
  ·rw [if_pos h'];rfl
  ·rw [if_neg h'];rfl
def Zv (l:List Int):ByteArray:=if YX (l.map Ym)=ByteArray.mk #[] then ⟨#[45]⟩ else YX (l.map Ym)
noncomputable def YV (t:Nm):ByteArray:=if t.Nc.length=0/\t.Nk=0 then ⟨#[45]⟩ else X6 t.Nk++⟨#[58]⟩++YY ⟨#[44]⟩ (t.Nc.map X6)
noncomputable def YB (x:Nd):ByteArray:=YY ⟨#[32]⟩ ([Zv x.Nb,X6 x.Nh]++x.Na.map YV)
structure Told (x:Nd):Prop where
 sw:x.Nb.length<=1000
 tr:x.Na.length<=20
 ct:DecOk x.Nh
 ch:∀ t∈x.Na,t.Nc.length<=20/\DecOk t.Nk/\∀ s∈t.Nc,DecOk s
theorem Qrt {l:List Int} (h:∀ s∈l,DecOk s):(YY ⟨#[44]⟩ (l.map X6)).size<=l.length * 21:=by
 have:=Qsp (sep:=⟨#[44]⟩) (m:=20) (Ex _) (l:=l.map X6) fun s hs=>by
  obtain ⟨n,hn,rfl⟩:=EC.1 hs;exact (h n hn).s
 simpa using this
theorem Qwt {x:Nd} (h:Told x) {t:Nm} (ht:t∈x.Na):(YV t).size<=500:=by
 obtain ⟨h1,h2,h3⟩:=h.ch t ht;unfold YV;split
 ·decide
 ·rw [Ec,Ec];have:=Qrt h3;have:=h2.s;have e:(ByteArray.mk #[58]).size=1:=rfl;omega
theorem Qrs (l:List Int):(YX (l.map Ym)).size<=l.length:=by
 have:=QIv (m:=1) (l:=l.map Ym) fun s hs=>by
  obtain ⟨n,_,rfl⟩:=EC.1 hs;rw [QYi];exact Ex _
 simpa using this
theorem QFt {l:List Int} (h:l.length<=1000):(Zv l).size<=1000:=by
 unfold Zv;split
 ·decide
 ·have:=Qrs l;omega
theorem Qzm {x:Nd} (h:Told x):Qkc x=some (YB x):=by
  refine E2 ?_;unfold Qkc;refine Ei (R:=fun s=>s=YX (x.Nb.map Ym)) (Eq_ (fun s=>∃ k:Nat,s=(YX ((x.Nb.take k).map Ym),(k:Int))/\k<=x.Nb.length) (fun s=>x.Nb.length - s.2.toNat) ⟨0,rfl,Em _⟩ ?_) ?_
  · rintro _ ⟨k,rfl,hk⟩;have hsw:=h.sw;unfold QDt;by_cases hlt:k < x.Nb.length
    · have hz:(YX ((x.Nb.take k).map Ym)).size<=1000:=Et (Qrs (x.Nb.take k)) (by rw [Ew];omega);have hc:∀ c:ByteArray,Ym x.Nb[k]=c->c.size=1->Runs (Er (ZP (YX ((x.Nb.take k).map Ym)) c) fun q=>some (Sum.inl (q,w64 ((k:Int)+1)))) (Rnd (fun s=>∃ k:Nat,s=(YX ((x.Nb.take k).map Ym),(k:Int))/\k<=x.Nb.length) (fun s=>x.Nb.length - s.2.toNat) (fun s=>s=YX (x.Nb.map Ym)) (YX ((x.Nb.take k).map Ym),(k:Int))):=fun c hc hc2=>by
        refine Ea (Qau (by omega)) (Eb ⟨⟨k+1,?_,by omega⟩,?_⟩)
        · rw [Xf k (by omega),<-Qdd x.Nb Ym k hlt,Qyi,hc]
        · show x.Nb.length - (w64 ((k:Int)+1)).toNat < x.Nb.length - ((k:Nat):Int).toNat;rw [Xf k (by omega)];simp;omega
      refine Ef (Xw hlt) (Ea (Xj hlt) (Runs.bif (fun h1=>?_) (fun h1=>Runs.bif (fun h2=>?_) (fun h2=>?_))))
      · exact hc _ (by unfold Ym;rw [if_pos (of_decide_eq_true h1)]) rfl
      · exact hc _ (by unfold Ym;rw [if_neg (of_decide_eq_false h1),if_pos (of_decide_eq_true h2)]) rfl
      · exact hc _ (by unfold Ym;rw [if_neg (of_decide_eq_false h1),if_neg (of_decide_eq_false h2)]) rfl
    · have:k=x.Nb.length:=by omega
      subst this;refine Eg (Xy _) (Eb ?_);show YX ((x.Nb.take x.Nb.length).map Ym)=_;rw [Ej]
  rintro _ rfl;refine Ei (R:=fun s=>s=Zv x.Nb) ?_ ?_
  · unfold Zv;by_cases e:YX (x.Nb.map Ym)=ByteArray.mk #[]
    · rw [if_pos e];exact Ef (decide_eq_true e) (Eb rfl)
    · rw [if_neg e];exact Eg (decide_eq_false e) (Eb rfl)
  rintro _ rfl;have hs1:=QFt h.sw;have hs2:=h.ct.s;have e1:(ByteArray.mk #[32]).size=1:=rfl;have e2:(ByteArray.mk #[58]).size=1:=rfl;have e3:(ByteArray.mk #[44]).size=1:=rfl;have e4:(ByteArray.mk #[45]).size=1:=rfl;refine Ea (Qau (by omega)) (Ea h.ct.d (Ea (Qau (by rw [Ec];omega)) ?_));have hsz:∀ k,k<=x.Na.length->(YY ⟨#[32]⟩ ([Zv x.Nb,X6 x.Nh]++(x.Na.take k).map YV)).size<=22 * 1001:=fun k hk=>by
    have:=Qsp (sep:=⟨#[32]⟩) (m:=1000) (Ex _) (l:=[Zv x.Nb,X6 x.Nh]++(x.Na.take k).map YV) fun s hs=>by
      rcases List.mem_append.1 hs with hs | hs
      · simp at hs;rcases hs with rfl | rfl<;>omega
      · obtain ⟨t,ht,rfl⟩:=EC.1 hs;have:=Qwt h (Ev ht);omega
    have h2:=h.tr;have h3:([Zv x.Nb,X6 x.Nh]++(x.Na.take k).map YV).length<=22:=by simp;omega
    exact Et this (EX _ h3)
  refine Runs.bind (Runs.mono (Q:=fun s=>s=YB x) (Eq_ (fun s=>∃ k:Nat,s=(YY ⟨#[32]⟩ ([Zv x.Nb,X6 x.Nh]++(x.Na.take k).map YV),(k:Int))/\k<=x.Na.length) (fun s=>x.Na.length - s.2.toNat) ⟨0,rfl,Em _⟩ ?_) (fun _ e=>Eb e));rintro _ ⟨k,rfl,hk⟩;have hz:=hsz k hk;have htr:=h.tr;unfold QDv;by_cases hlt:k < x.Na.length
  · have hT:=Ed hlt;obtain ⟨c1,c2,c3⟩:=h.ch _ hT;have c2s:=c2.s;have hts:=Qwt h hT;have hnext:YY ⟨#[32]⟩ ([Zv x.Nb,X6 x.Nh]++(x.Na.take k).map YV)++⟨#[32]⟩++YV x.Na[k]=YY ⟨#[32]⟩ ([Zv x.Nb,X6 x.Nh]++(x.Na.take (k+1)).map YV):=by
      rw [<-Qsq (by simp),EF,Qdd x.Na YV k hlt]
    have hend:∀ s:ByteArray,s=YY ⟨#[32]⟩ ([Zv x.Nb,X6 x.Nh]++(x.Na.take k).map YV)++⟨#[32]⟩++YV x.Na[k]->Runs (some (Sum.inl (s,w64 ((k:Int)+1)))) (Rnd (fun s=>∃ k:Nat,s=(YY ⟨#[32]⟩ ([Zv x.Nb,X6 x.Nh]++(x.Na.take k).map YV),(k:Int))/\k<=x.Na.length) (fun s=>x.Na.length - s.2.toNat) (fun s=>s=YB x) (YY ⟨#[32]⟩ ([Zv x.Nb,X6 x.Nh]++(x.Na.take k).map YV),(k:Int))):=fun s hs=>by
      refine Eb ⟨⟨k+1,?_,by omega⟩,?_⟩
      · rw [Xf k (by omega),hs,hnext]
      · show x.Na.length - (w64 ((k:Int)+1)).toNat < x.Na.length - ((k:Nat):Int).toNat;rw [Xf k (by omega)];simp;omega
    refine Ef (Xw hlt) (Ea (Xj hlt) (Ea (Qau (by omega)) ?_));by_cases he:x.Na[k].Nc.length=0/\x.Na[k].Nk=0
    · refine Ef (by simp [he]) (Ea (Qau (by rw [Ec];omega)) (hend _ ?_));unfold YV;rw [if_pos he]
    · refine Eg ?_ ?_
      · rw [Es,decide_eq_false_iff_not,decide_eq_false_iff_not];omega
      refine Ea c2.d (Ea (Qau (by rw [Ec];omega)) (Ea (Qau (by rw [Ec,Ec];omega)) ?_));refine Ei (R:=fun s=>s=YY ⟨#[32]⟩ ([Zv x.Nb,X6 x.Nh]++(x.Na.take k).map YV)++⟨#[32]⟩++YV x.Na[k]) ?_ (fun s hs=>hend s hs);generalize hpre:YY ⟨#[32]⟩ ([Zv x.Nb,X6 x.Nh]++(x.Na.take k).map YV)++⟨#[32]⟩++X6 x.Na[k].Nk++⟨#[58]⟩=pre;have hps:pre.size<=30000:=by rw [<-hpre,Ec,Ec,Ec];omega
      refine Eq_ (fun s=>∃ j:Nat,s=(pre++YY ⟨#[44]⟩ ((x.Na[k].Nc.take j).map X6),(j:Int))/\j<=x.Na[k].Nc.length) (fun s=>x.Na[k].Nc.length - s.2.toNat) ⟨0,?_,Em _⟩ ?_
      · show (pre,(0:Int))=_;rw [EV,List.map_nil];show _=(pre++ByteArray.empty,_);rw [ET];rfl
      · rintro _ ⟨j,rfl,hj⟩;unfold QDu;by_cases hjl:j < x.Na[k].Nc.length
        · have hd:=c3 _ (Ed hjl);have hds:=hd.s;have hjs:=Qrt (l:=x.Na[k].Nc.take j) fun s hs=>c3 s (Ev hs)
          have hjl2:(x.Na[k].Nc.take j).length<=20:=by simp;omega
          refine Ef (Xw hjl) ?_;have hsn:=Qdd x.Na[k].Nc X6 j hjl;have hm:x.Na[k].Nc.length - (w64 ((j:Int)+1)).toNat < x.Na[k].Nc.length - ((j:Nat):Int).toNat:=by rw [Xf j (by omega)];simp;omega
          by_cases h0:0 < j
          · refine Ei (R:=fun s=>s=pre++YY ⟨#[44]⟩ ((x.Na[k].Nc.take j).map X6)++⟨#[44]⟩) (Ef (by simp;omega) (Ea (Qau (by rw [Ec];omega)) (Eb rfl))) ?_;rintro _ rfl;refine Ea (Xj hjl) (Ea hd.d (Ea (Qau (by rw [Ec,Ec];omega)) (Eb ⟨⟨j+1,?_,by omega⟩,hm⟩)));rw [Xf j (by omega),<-hsn,Qsq (Ez (by simp;omega))];simp only [EU]
          · have:j=0:=by omega
            subst this;refine Ei (R:=fun s=>s=pre) (Eg rfl (Eb ?_)) ?_
            · show pre++ByteArray.empty=pre;rw [ET]
            rintro _ rfl;refine Ea (Xj hjl) (Ea hd.d (Ea (Qau (by omega)) (Eb ⟨⟨0+1,?_,by omega⟩,hm⟩)));rw [<-hsn];rfl
        · have:j=x.Na[k].Nc.length:=by omega
          subst this;refine Eg (Xy _) (Eb ?_);show pre++YY ⟨#[44]⟩ ((x.Na[k].Nc.take x.Na[k].Nc.length).map X6)=_;rw [Ej,<-hpre];unfold YV;rw [if_neg he];simp only [EU]
  · have:k=x.Na.length:=by omega
    subst this;refine Eg (Xy _) (Eb ?_);show YY _ (_++(x.Na.take x.Na.length).map YV)=YB x;rw [Ej];rfl
theorem Qzl {x:Nd} (h:Told x):Qfd x=some (YB x):=by
  refine E2 ?_;unfold Qfd;refine Ei (R:=fun s=>s=bl (YX (x.Nb.map Ym))) (Eq_ (fun s=>∃ k:Nat,s=((k:Int),bl (YX ((x.Nb.take k).map Ym)))/\k<=x.Nb.length) (fun s=>x.Nb.length - s.1.toNat) ⟨0,rfl,Em _⟩ ?_) ?_
  · rintro _ ⟨k,rfl,hk⟩;have hsw:=h.sw;unfold QAp;by_cases hlt:k < x.Nb.length
    · have hz:(YX ((x.Nb.take k).map Ym)).size<=1000:=Et (Qrs (x.Nb.take k)) (by rw [Ew];omega);have hc:∀ c:ByteArray,Ym x.Nb[k]=c->c.size=1->Runs (Er (app (bl (YX ((x.Nb.take k).map Ym))) (bl c)) fun q=>some (Sum.inl (w64 ((k:Int)+1),q))) (Rnd (fun s=>∃ k:Nat,s=((k:Int),bl (YX ((x.Nb.take k).map Ym)))/\k<=x.Nb.length) (fun s=>x.Nb.length - s.1.toNat) (fun s=>s=bl (YX (x.Nb.map Ym))) ((k:Int),bl (YX ((x.Nb.take k).map Ym)))):=fun c hc hc2=>by
        refine Ea (Zp (by rw [ZY,ZY];omega)) (Eb ⟨⟨k+1,?_,by omega⟩,?_⟩)
        · rw [Xf k (by omega),<-Qdd x.Nb Ym k hlt,Qyi,hc,Qrl]
        · show x.Nb.length - (w64 ((k:Int)+1)).toNat < x.Nb.length - ((k:Nat):Int).toNat;rw [Xf k (by omega)];simp;omega
      refine Ef (Xw hlt) (Ea (Xj hlt) (Runs.bif (fun h1=>?_) (fun h1=>Runs.bif (fun h2=>?_) (fun h2=>?_))))
      · have e:=of_decide_eq_true h1;refine Ef h1 ?_;rw [e];exact Ea QNc (hc _ (by unfold Ym;rw [if_pos e]) rfl)
      · have e:=of_decide_eq_true h2;rw [e];exact Ea QNd (hc _ (by unfold Ym;rw [if_neg (of_decide_eq_false h1),if_pos e]) rfl)
      · exact hc _ (by unfold Ym;rw [if_neg (of_decide_eq_false h1),if_neg (of_decide_eq_false h2)]) rfl
    · have:k=x.Nb.length:=by omega
      subst this;refine Eg (Xy _) (Eb ?_);show bl (YX ((x.Nb.take x.Nb.length).map Ym))=_;rw [Ej]
  rintro _ rfl;refine Ei (R:=fun l=>l=[YX (x.Nb.map Ym),X6 x.Nh]) (Ea h.ct.i (Eb (by rw [QCu]))) ?_;rintro _ rfl;refine Ea (b:=YX (x.Nb.map Ym)) rfl (Ei (R:=fun l=>l=[Zv x.Nb,X6 x.Nh]) ?_ ?_)
  · unfold Zv;by_cases e:YX (x.Nb.map Ym)=ByteArray.mk #[]
    · rw [if_pos e];exact Ef (decide_eq_true e) (Ea (b:=YX (x.Nb.map Ym)) rfl (Eb rfl))
    · rw [if_neg e];exact Eg (decide_eq_false e) (Eb rfl)
  rintro _ rfl;have htr:=h.tr;have hs1:=QFt h.sw;have hs2:=h.ct.s;refine Ei (R:=fun l=>l=[Zv x.Nb,X6 x.Nh]++x.Na.map YV) (Eq_ (fun s=>∃ k:Nat,s=([Zv x.Nb,X6 x.Nh]++(x.Na.take k).map YV,(k:Int))/\k<=x.Na.length) (fun s=>x.Na.length - s.2.toNat) ⟨0,rfl,Em _⟩ ?_) ?_
  · rintro _ ⟨k,rfl,hk⟩;unfold QAr;by_cases hlt:k < x.Na.length
    · have hT:=Ed hlt;obtain ⟨c1,c2,c3⟩:=h.ch _ hT;have c2s:=c2.s;have hm:x.Na.length - (w64 ((k:Int)+1)).toNat < x.Na.length - ((k:Nat):Int).toNat:=by rw [Xf k (by omega)];simp;omega
      have hnext:∀ c,c=YV x.Na[k]->([Zv x.Nb,X6 x.Nh]++(x.Na.take k).map YV)++[c]=[Zv x.Nb,X6 x.Nh]++(x.Na.take (k+1)).map YV:=fun c hc=>by
        rw [hc,EF,Qdd x.Na YV k hlt]
      refine Ef (Xw hlt) (Ea (Xj hlt) ?_);by_cases he:x.Na[k].Nc.length=0/\x.Na[k].Nk=0
      · refine Ef (by simp [he]) (Ea (Zp (by simp;omega)) (Eb ⟨⟨k+1,?_,by omega⟩,hm⟩));rw [Xf k (by omega),hnext _ (by unfold YV;rw [if_pos he])]
      · refine Eg ?_ ?_
        · rw [Es,decide_eq_false_iff_not,decide_eq_false_iff_not];omega
        refine Ei (R:=fun l=>l=x.Na[k].Nc.map X6) (Eq_ (fun s=>∃ j:Nat,s=((x.Na[k].Nc.take j).map X6,(j:Int))/\j<=x.Na[k].Nc.length) (fun s=>x.Na[k].Nc.length - s.2.toNat) ⟨0,rfl,Em _⟩ ?_) ?_
        · rintro _ ⟨j,rfl,hj⟩;unfold QAq;by_cases hjl:j < x.Na[k].Nc.length
          · have hd:=c3 _ (Ed hjl);refine Ef (Xw hjl) (Ea (Xj hjl) (Ea hd.i (Ea (Zp (by simp;omega)) (Eb ⟨⟨j+1,by rw [Xf j (by omega),Qdd x.Na[k].Nc X6 j hjl],by omega⟩,?_⟩))));show x.Na[k].Nc.length - (w64 ((j:Int)+1)).toNat < x.Na[k].Nc.length - ((j:Nat):Int).toNat;rw [Xf j (by omega)];simp;omega
          · have:j=x.Na[k].Nc.length:=by omega
            subst this;refine Eg (Xy _) (Eb ?_);show (x.Na[k].Nc.take x.Na[k].Nc.length).map X6=_;rw [Ej]
        rintro _ rfl;have hcs:=Qrt c3;have hjo:Qhp (x.Na[k].Nc.map X6) (ByteArray.mk #[44])=some (YY ⟨#[44]⟩ (x.Na[k].Nc.map X6)):=QAe rfl (by simp;omega) fun s hs=>by
          obtain ⟨n,hn,rfl⟩:=EC.1 hs;have:=(c3 n hn).s;omega
        have e2:(ByteArray.mk #[58]).size=1:=rfl;refine Ea c2.i (Ea (Qau (by omega)) (Ea hjo (Ea (Qau (by rw [Ec];omega)) (Ea (Zp (by simp;omega)) (Eb ⟨⟨k+1,?_,by omega⟩,hm⟩)))));rw [Xf k (by omega),hnext _ (by unfold YV;rw [if_neg he])]
    · have:k=x.Na.length:=by omega
      subst this;refine Eg (Xy _) (Eb ?_);show [Zv x.Nb,X6 x.Nh]++(x.Na.take x.Na.length).map YV=_;rw [Ej]
  rintro _ rfl;refine Ea (QAe rfl (by simp;omega) fun s hs=>?_) (Eb rfl);rcases List.mem_append.1 hs with hs | hs
  · simp at hs;rcases hs with rfl | rfl<;>omega
  · obtain ⟨t,ht,rfl⟩:=EC.1 hs;have:=Qwt h ht;omega
end Go.Gw

end
section
set_option maxRecDepth 4096
set_option linter.unusedVariables false
namespace Go.Gw
open Go
attribute [local irreducible] loop
theorem QJl:∀ n:Fin 251,(match Qao ((n.val:Nat):Int),Qbx ((n.val:Nat):Int) with
  | some a,some b=>decide (a=b)&&decide (a.size<=20)
  | _,_=>false)=true:=by decide +kernel
theorem Qys {n:Int} (h:Qas n=true):DecOk n:=by
 have h:0<=n/\n<=250:=by unfold Qas at h;simpa using h
 have:=QJl ⟨n.toNat,by omega⟩;rw [show ((((⟨n.toNat,by omega⟩:Fin 251).val:Nat)):Int)=n by show ((n.toNat:Nat):Int)=n;omega] at this;cases hi:Qao n with
 | none=>rw [hi] at this;cases this
 | some a =>
  cases hd:Qbx n with
  | none=>rw [hi,hd] at this;cases this
  | some b =>
   rw [hi,hd] at this;simp only [Eo,decide_eq_true_eq] at this;have hb:X6 n=b:=by unfold X6;rw [hd];rfl
   exact ⟨by rw [hb,hi,this.1],by rw [hb,hd],by rw [hb,<-this.1];exact this.2⟩
theorem Qqd {p:Ng} (hp:PlantOk p) {x:Nd} (h:StateOk p x) (hc:DecOk x.Nh):Told x:=by
 refine ⟨by have:=h.sw;have:=hp.w4;omega,by have:=h.tr;have:=hp.t3;omega,hc,fun t ht=>?_⟩;have h1:=h.len ht;have h2:=hp.s8;refine ⟨by omega,?_,fun s hs=>?_⟩
 ·rcases h.un t ht with ⟨_,h3⟩ | ⟨h3,h4⟩
  ·exact Qrw (by omega) (by omega)
  ·exact Qrw (by omega) (by omega)
 ·have:=h.sc t ht s hs;unfold Ya at this;simp at this;exact Qrw (by omega) (by omega)
theorem Qwc (p:Ng) (x:Nd) (e:Nj):(X1 p x e).Nh=x.Nh:=by
 unfold X1;split<;>rfl
noncomputable def Yu (acc:List Nd×List ByteArray) (y:Nd):List Nd×List ByteArray:=if YP acc.2 (YB y)=true then acc else (acc.1++[y],acc.2++[YB y])
theorem Qeu:∀ (ys:List Nd) (acc:List Nd×List ByteArray),∃ z:List Nd,ys.foldl Yu acc=(acc.1++z,acc.2++z.map YB)/\z.length<=ys.length/\∀ x∈z,x∈ys
 | [],acc=>⟨[],by simp,Ex _,fun x h=>h⟩
 | y::ys,acc=>by
  rw [ER];unfold Yu;by_cases h:YP acc.2 (YB y)=true
  ·rw [if_pos h];obtain ⟨z,h1,h2,h3⟩:=Qeu ys acc;unfold Yu at h1;exact ⟨z,h1,by simp;omega,fun x hx=>El _ (h3 x hx)⟩
  ·rw [if_neg h];obtain ⟨z,h1,h2,h3⟩:=Qeu ys (acc.1++[y],acc.2++[YB y]);unfold Yu at h1;refine ⟨y::z,by rw [h1];simp,by simp;omega,fun x hx=>?_⟩;rcases List.mem_cons.1 hx with rfl | hx
   ·exact EB ..
   ·exact El _ (h3 x hx)
def Zu (p:Ng) (x:Nd):List Nd:=(YR p x).map (X1 p x)
noncomputable def rnd (p:Ng) (new:List Nd) (keys:List ByteArray):List Nd×List ByteArray:=(new.flatMap (Zu p)).foldl Yu ([],keys)
theorem QFs {p:Ng} (hp:PlantOk p) (x:Nd):(Zu p x).length<=280:=by
 unfold Zu YR;rw [List.length_map];exact Et (EW _ _) (Qzf hp)
theorem Qmi {p:Ng} (hp:PlantOk p):∀ new:List Nd,(new.flatMap (Zu p)).length<=new.length * 280
 | []=>Ex _
 | x::l=>by
  have h1:=Qmi hp l;have h2:=QFs hp x;rw [List.flatMap_cons,EA,EI,EK];omega
def Qhx (p:Ng) (c:Int) (l:List Nd):Prop:=∀ x∈l,StateOk p x/\x.Nh=c
theorem QYg {p:Ng} (hp:PlantOk p) {c:Int} {l:List Nd} (h:Qhx p c l):Qhx p c (l.flatMap (Zu p)):=fun y hy=>by
 obtain ⟨x,hx,hy⟩:=List.mem_flatMap.1 hy;obtain ⟨e,he,rfl⟩:=EC.1 hy;obtain ⟨h1,h2⟩:=h x hx;unfold YR at he;rw [List.mem_filter] at he;exact ⟨Qpt hp h1 (Qmf he.1) (of_decide_eq_true he.2),by rw [Qwc,h2]⟩
def Qfg (new:List Nd) (keys:List ByteArray):Nat:=2 * (2002 - keys.length)+(if new=[] then 0 else 1)
structure SrchOk (p:Ng) (c:Int) (new:List Nd) (keys:List ByteArray):Prop where
 ok:Qhx p c new
 nl:new.length<=keys.length
 kl:keys.length<=600000
 e:new=[]->keys.length<=2000
theorem SrchOk.rnd {p:Ng} (hp:PlantOk p) {c:Int} {new:List Nd} {keys:List ByteArray} (h:SrchOk p c new keys) (hn:new≠[]) (hk:keys.length<=2000):SrchOk p c (rnd p new keys).1 (rnd p new keys).2/\Qfg (Gw.rnd p new keys).1 (Gw.rnd p new keys).2 < Qfg new keys/\∃ z,Gw.rnd p new keys=(z,keys++z.map YB)/\z.length<=560000:=by
 obtain ⟨z,h1,h2,h3⟩:=Qeu (new.flatMap (Zu p)) ([],keys);have h4:Gw.rnd p new keys=(z,keys++z.map YB):=by unfold Gw.rnd;rw [h1];simp
 have h5:=Qmi hp new;have h6:=h.nl;have h7:z.length<=560000:=by omega
 rw [h4];refine ⟨⟨fun x hx=>QYg hp h.ok x (h3 x hx),by simp,by simp;omega,fun e=>by subst e;simpa using hk⟩,?_,z,rfl,h7⟩;unfold Qfg;rw [if_neg hn];by_cases hz:z=[]
 ·subst hz;simp
 ·rw [if_neg hz];have:0 < z.length:=List.length_pos_iff.2 hz;simp;omega
/-! ### By the reference -/
theorem QMo (l:List ByteArray) (s:ByteArray) (hl:l.length < 1000000):Qlw l s=some (YP l s):=by
 unfold Qlw;rw [Ze l (fun x=>decide (x=s)) (fun _ _=>true),Qp]
 ·rcases Z3 (p:=fun x=>decide (x=s)) (res:=fun _ _=>true) l 0 with ⟨k1,k2⟩ | ⟨j,x,k1,k2,k3⟩
  ·rw [k1,<-Qnu,k2];rfl
  ·rw [k1,<-Qnu,k3];rfl
 ·intro k hk;unfold Qrf;rw [Xw hk,Xj hk,Xf k (by omega)];rfl
 ·unfold Qrf;rw [Xy];rfl
theorem QLw {α:Type} (q:α->Bool) (l:List α) (k:Nat) (hk:k < l.length):(l.take (k+1)).filter q=(l.take k).filter q++(if q l[k]=true then [l[k]] else []):=by
 rw [<-Qej l k hk,List.filter_append];congr 1;simp [List.filter_cons]
theorem QUo {p:Ng} (hS:PlantS p) (hp:PlantOk p) {all0:List Nd} {i:Nat} (hi:i < all0.length) {c:Int} (hc:DecOk c) (hok:StateOk p all0[i]) (hcn:all0[i].Nh=c) (acc0:List Nd×List ByteArray) (hl0:all0.length+acc0.1.length<=800000) (hl1:acc0.2.length<=800000) :
  loop (Qvc p (Yd p) i) (all0++acc0.1,acc0.2,0)=some (all0++((Zu p all0[i]).foldl Yu acc0).1,((Zu p all0[i]).foldl Yu acc0).2):=by
 have hel:=Qzf hp;refine E2 (Eq_ (fun s=>∃ k:Nat,k<=(Yd p).length/\s=(all0++(((((Yd p).take k).filter fun e=>decide (Zb p all0[i] e=0)).map (X1 p all0[i])).foldl Yu acc0).1,(((((Yd p).take k).filter fun e=>decide (Zb p all0[i] e=0)).map (X1 p all0[i])).foldl Yu acc0).2,(k:Int))) (fun s=>(Yd p).length - s.2.2.toNat) ⟨0,Em _,rfl⟩ ?_);rintro _ ⟨k,hk,rfl⟩;obtain ⟨z,hz,hzl,hzm⟩:=Qeu ((((Yd p).take k).filter fun e=>decide (Zb p all0[i] e=0)).map (X1 p all0[i])) acc0;have hzl2:z.length<=280:=by
  refine Et hzl ?_;rw [List.length_map];exact Et (EW _ _) (by rw [Ew];omega)
 unfold Qvc;by_cases hlt:k < (Yd p).length
 ·have hm:(Yd p).length - (w64 ((k:Int)+1)).toNat < (Yd p).length - ((k:Nat):Int).toNat:=by rw [Xf k (by omega)];simp;omega
  have he:=Qmf (Ed hlt);refine Ef (Xw hlt) ?_;have hget:∀ r:List Nd,idx (all0++r) (i:Int)=some all0[i]:=fun r=>by
   rw [Xj?,List.getElem?_append_left hi,En hi]
  have hsn:=QLw (fun e=>decide (Zb p all0[i] e=0)) (Yd p) k hlt;by_cases hst:Zb p all0[i] (Yd p)[k]=0
  ·rw [if_pos (decide_eq_true hst)] at hsn;refine Ei (R:=fun r=>r=(0,(X1 p all0[i] (Yd p)[k]).Nb,(X1 p all0[i] (Yd p)[k]).Na,(X1 p all0[i] (Yd p)[k]).Nh)) (Ea (hget _) (Ea (Xj hlt) (Ea (Quu hp hok he) (Eb (by rw [if_pos hst]))))) ?_;rintro _ rfl;have hy:=Qpt hp hok he hst;have hcy:(X1 p all0[i] (Yd p)[k]).Nh=c:=by rw [Qwc,hcn]
   have hT:=Qqd hp hy (by rw [hcy];exact hc);generalize hgy:X1 p all0[i] (Yd p)[k]=y at hy hcy hT;refine Eg rfl (Ea (Qzm hT) ?_);have hnext:(((((Yd p).take (k+1)).filter fun e=>decide (Zb p all0[i] e=0)).map (X1 p all0[i])).foldl Yu acc0)=Yu (((((Yd p).take k).filter fun e=>decide (Zb p all0[i] e=0)).map (X1 p all0[i])).foldl Yu acc0) y:=by
    rw [hsn,List.map_append,EH];simp [hgy]
   rw [hz] at hnext ⊢;dsimp only;refine Ea (QMo _ _ (by simp;omega)) (Runs.bif (fun hn=>?_) (fun hn=>?_))
   ·have hn2:YP (acc0.2++z.map YB) (YB y)=false:=by simpa using hn
    refine Ea (Zp (by simp;omega)) (Ea (Zp (by simp;omega)) (Eb ⟨⟨k+1,by omega,?_⟩,hm⟩));rw [hnext,Xf k (by omega)];unfold Yu;rw [if_neg (by rw [hn2];exact ED)];simp only [EF]
   ·have hn2:YP (acc0.2++z.map YB) (YB y)=true:=by simpa using hn
    refine Eb ⟨⟨k+1,by omega,?_⟩,hm⟩;rw [hnext,Xf k (by omega)];unfold Yu;rw [if_pos hn2]
  ·rw [if_neg (by rw [decide_eq_false hst];exact ED),EQ] at hsn;refine Ei (R:=fun r=>r.1≠0) (Ea (hget _) (Ea (Xj hlt) (Ea (Quu hp hok he) (Eb (by rw [if_neg hst];exact hst))))) ?_;rintro ⟨r1,r2,r3,r4⟩ hr;refine Ef (by rw [decide_eq_false hr];rfl) (Eb ⟨⟨k+1,by omega,?_⟩,hm⟩);rw [hsn,Xf k (by omega)]
 ·have:k=(Yd p).length:=by omega
  subst this;refine Eg (Xy _) (Eb ?_);rw [Ej];rfl
theorem Qsh {p:Ng} (l:List Nd) (k:Nat) (hk:k < l.length) (acc:List Nd×List ByteArray):((l.take (k+1)).flatMap (Zu p)).foldl Yu acc=(Zu p l[k]).foldl Yu (((l.take k).flatMap (Zu p)).foldl Yu acc):=by
 rw [<-Qej l k hk,Ey,EH];simp
theorem QUp {p:Ng} (hS:PlantS p) (hp:PlantOk p) {all0:List Nd} {f:Nat} {c:Int} (hc:DecOk c) {keys:List ByteArray} (hf:f<=all0.length) (hok:Qhx p c (all0.drop f)) (hl:all0.length<=2000) (hk:keys.length<=2000) :
  loop (Qvd p all0) (all0,keys,(f:Int))=some (all0++(rnd p (all0.drop f) keys).1,(rnd p (all0.drop f) keys).2):=by
 refine E2 (Eq_ (fun s=>∃ k:Nat,f+k<=all0.length/\s=(all0++((((all0.drop f).take k).flatMap (Zu p)).foldl Yu ([],keys)).1,((((all0.drop f).take k).flatMap (Zu p)).foldl Yu ([],keys)).2,((f+k:Nat):Int))) (fun s=>all0.length - s.2.2.toNat) ⟨0,hf,by simp⟩ ?_);rintro _ ⟨k,hk2,rfl⟩;unfold Qvd;by_cases hlt:f+k < all0.length
 ·have hm:all0.length - (w64 (((f+k:Nat):Int)+1)).toNat < all0.length - ((f+k:Nat):Int).toNat:=by rw [Xf (f+k) (by omega)];simp;omega
  obtain ⟨z,hz,hzl,_⟩:=Qeu (((all0.drop f).take k).flatMap (Zu p)) ([],keys);have hz2:=Qmi hp ((all0.drop f).take k);have hz3:((all0.drop f).take k).length<=2000:=by simp;omega
  have hin:all0[f+k]∈all0.drop f:=by
   rw [Eu];exact ⟨k,by simp;omega,by rw [Ek]⟩
  obtain ⟨h1,h2⟩:=hok _ hin;refine Ef (Xw hlt) (Ea (QUn hS hp) (Ea (QUo hS hp hlt hc h1 h2 _ ?_ ?_) (Eb ⟨⟨k+1,by omega,?_⟩,hm⟩)))
  ·rw [hz];simp;omega
  ·rw [hz];simp;omega
  ·have:=Qsh (p:=p) (all0.drop f) k (by simp;omega) ([],keys);rw [Ek] at this;rw [this,Xf (f+k) (by omega)];rfl
 ·have:f+k=all0.length:=by omega
  rw [this];refine Eg (Xy _) (Eb ?_);rw [ES (by simp;omega)];rfl

/-! ### The way -/
def Jv (to:Nq) (x:Nd):Bool:=match x.Na[to.e0.toNat]? with
 | some t=>decide (to.e1∈t.Nc.take t.Nk.toNat)
 | none=>false
theorem QGl {p:Ng} {x:Nd} (hx:StateOk p x) {t:Nm} (ht:t∈x.Na):cut t.Nc 0 t.Nk=some (t.Nc.take t.Nk.toNat)/\(t.Nc.take t.Nk.toNat).length<=t.Nc.length:=by
 refine ⟨?_,by rw [Ew];omega⟩;unfold cut;rcases hx.un t ht with ⟨h1,h2⟩ | ⟨h1,h2⟩
 ·rw [if_pos (by rw [h1,h2];simp)];rfl
 ·rw [if_pos (by omega)];rfl
theorem QGi {p:Ng} {x:Nd} (hx:StateOk p x) {n:Int} (hn:Zl p n=true):∃ k:Nat,n=(k:Int)/\k < x.Na.length:=by
 unfold Zl at hn;simp only [Eo,decide_eq_true_eq] at hn;have:=hx.tr;exact ⟨n.toNat,by omega,by omega⟩
theorem QDl {p:Ng} (hp:PlantOk p) {x:Nd} (hx:StateOk p x) {to:Nq} (hn:Zl p to.e0=true):Qkd x to.e0 to.e1=some (Jv to x):=by
 obtain ⟨k,h1,h2⟩:=QGi hx hn;obtain ⟨h3,h4⟩:=QGl hx (Ed h2);have h5:=(hx.s hp).ch _ (Ed h2);unfold Qkd Jv;rw [h1,Xj h2,Qp,h3,Qp,Qjb _ _ (by omega),Int.toNat_natCast,En h2];rfl
noncomputable def J9 (p:Ng) (to:Nq):Nat->List Nd->List ByteArray->Nat->Int×Bool
 | 0,_,_,_=>(0,false)
 | n+1,new,keys,k=>if new=[] then (-1,true) else if new.any (Jv to)=true then ((k:Int),true) else if 2000 < keys.length then (0,false) else J9 p to n (rnd p new keys).1 (rnd p new keys).2 (k+1)
theorem QUx {p:Ng} (hS:PlantS p) (hp:PlantOk p) {c:Int} (hc:DecOk c) {to:Nq} (ht:Zl p to.e0=true):∀ (n:Nat) (all0:List Nd) (keys:List ByteArray) (f k:Nat),f<=all0.length->all0.length=keys.length->SrchOk p c (all0.drop f) keys->Qfg (all0.drop f) keys < n->k+n<=10000 ->
    ∃ o,loop (Qfl p to) (all0,keys,(f:Int),(k:Int))=some o/\(Xs o fun (_:Unit)=>some ((-1:Int),true))=some (J9 p to n (all0.drop f) keys k):=by
  intro n
  induction n with
  | zero=>intro all0 keys f k _ _ _ h;omega
  | succ n ih =>
    intro all0 keys f k hf hlen h hmeas hk;unfold J9;by_cases hlt:f < all0.length
    · have hne:all0.drop f≠[]:=Ez (by rw [List.length_drop];omega);have hsr:loop (Qda to all0 (k:Int)) (f:Int)=some (if (all0.drop f).any (Jv to)=true then .inl (.inr (.inl ((k:Int),true))) else .inr ()):=by
        have hkl:=h.kl;have key:∀ j i,f<=i->i+j=all0.length->loop (Qda to all0 (k:Int)) (i:Int)=some (if (all0.drop i).any (Jv to)=true then .inl (.inr (.inl ((k:Int),true))) else .inr ()):=by
          intro j
          induction j with
          | zero =>
            intro i hi hij;have:i=all0.length:=by omega
            subst this;rw [ZE (show Qda to all0 (k:Int) _=some (.inr (.inr ())) by unfold Qda;rw [Xy];rfl),List.drop_length];rfl
          | succ j ihj =>
            intro i hi hij;have hil:i < all0.length:=by omega
            have hin:all0[i]∈all0.drop f:=by
              rw [Eu];exact ⟨i - f,by simp;omega,by rw [Ek];congr 1;omega⟩
            have hst:=QDl hp (h.ok _ hin).1 ht;rw [EN hil,EZ];cases hq:Jv to all0[i] with
            | true =>
              rw [ZE (show Qda to all0 (k:Int) _=some (.inr (.inl (.inr (.inl ((k:Int),true))))) by unfold Qda;rw [Xw hil,cond_true,Xj hil,Qp,hst,hq];rfl)];rfl
            | false =>
              rw [JC (show Qda to all0 (k:Int) _=some (.inl ((i+1:Nat):Int)) by unfold Qda;rw [Xw hil,cond_true,Xj hil,Qp,hst,hq,Xf i (by omega)];rfl),ihj (i+1) (by omega) (by omega),E0]
        exact key (all0.length - f) f (Ex _) (by omega)
      rw [if_neg hne];cases hany:(all0.drop f).any (Jv to) with
      | true =>
        rw [if_pos hany] at hsr;rw [if_pos rfl];refine ⟨.inl ((k:Int),true),ZE ?_,rfl⟩;unfold Qfl;dsimp only;rw [Xw hlt,cond_true,hsr];rfl
      | false =>
        rw [if_neg (by rw [hany];exact ED)] at hsr;rw [if_neg ED];by_cases hbig:2000 < keys.length
        · rw [if_pos hbig];refine ⟨.inl (0,false),ZE ?_,rfl⟩;unfold Qfl;dsimp only;rw [Xw hlt,cond_true,hsr,Qp];show (bif _ then _ else _)=_;rw [decide_eq_true (by omega),cond_true]
        · rw [if_neg hbig];obtain ⟨h1,h2,z,hz,hzl⟩:=h.rnd hp hne (by omega);have hs:Qfl p to (all0,keys,(f:Int),(k:Int))=some (.inl (all0++z,keys++z.map YB,(all0.length:Int),((k+1:Nat):Int))):=by
            unfold Qfl;dsimp only;rw [Xw hlt,cond_true,hsr,Qp];show (bif _ then _ else _)=_;rw [decide_eq_false (by omega),cond_false,QUp hS hp hc hf h.ok (by omega) (by omega),hz,Xf k (by omega)];rfl
          rw [JC hs];have hd:(all0++z).drop all0.length=z:=by simp
          have:=ih (all0++z) (keys++z.map YB) all0.length (k+1) (by simp) (by simp;omega) (by rw [hd];rw [hz] at h1;exact h1) (by rw [hd];rw [hz] at h2;dsimp only at h2;omega) (by omega);rw [hd] at this;rw [hz];exact this
    · have hnil:all0.drop f=[]:=by rw [List.drop_eq_nil_iff];omega
      rw [if_pos hnil];refine ⟨.inr (),ZE ?_,rfl⟩;have:f=all0.length:=by omega
      subst this;unfold Qfl;dsimp only;rw [Xy];rfl
theorem QGs {p:Ng} {to:Nq}:∀ (n:Nat) (new:List Nd) (keys:List ByteArray) (k:Nat) {m:Nat},J9 p to n new keys k=((m:Int),true)->m<=k+n
 | 0,new,keys,k,m,h=>by unfold J9 at h;cases (Prod.mk.inj h).2
 | n+1,new,keys,k,m,h=>by
  unfold J9 at h;by_cases h1:new=[]
  ·rw [if_pos h1] at h;have:=(Prod.mk.inj h).1;omega
  rw [if_neg h1] at h;by_cases h2:new.any (Jv to)=true
  ·rw [if_pos h2] at h;have:=(Prod.mk.inj h).1;omega
  rw [if_neg h2] at h;by_cases h3:2000 < keys.length
  ·rw [if_pos h3] at h;cases (Prod.mk.inj h).2
  rw [if_neg h3] at h;have:=QGs n _ _ _ h;omega
def Qaz:Nat:=5000
theorem QFg {p:Ng} {x:Nd} (hx:StateOk p x):SrchOk p x.Nh [x] [YB x]:=⟨fun y hy=>by simp at hy;subst hy;exact ⟨hx,rfl⟩,Ex _,by simp,fun h=>by cases h⟩
theorem QBm (x:Nd):Qfg [x] [YB x] < Qaz:=by unfold Qfg Qaz;simp
theorem QUw {p:Ng} (hS:PlantS p) (hp:PlantOk p) {x:Nd} (hx:StateOk p x) {to:Nq} (ht:Zl p to.e0=true):Qov p x to=some (J9 p to Qaz [x] [YB x] 0):=by
 have hc:=Qys hx.cnt;unfold Qov;rw [Qzm (Qqd hp hx hc),Qp];obtain ⟨o,h1,h2⟩:=QUx hS hp hc ht Qaz [x] [YB x] 0 0 (Em _) rfl (QFg hx) (QBm x) (by unfold Qaz;omega);rw [show ((0:Nat):Int)=0 from rfl] at h1;rw [h1,Qp];exact h2
end Go.Gw

end
