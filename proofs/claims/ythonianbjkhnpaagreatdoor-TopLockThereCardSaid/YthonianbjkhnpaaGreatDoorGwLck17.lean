/- Laws of the walk. Condition: each theorem says its own. -/
import Derived.Test.YthonianbjkhnpaaGreatDoorGwAwakeLock
set_option linter.unusedVariables false
set_option linter.unusedSimpArgs false
set_option linter.unusedSectionVars false
open Go.Gw.Runs renaming call→Ea,some→Ec,bif_t→Ef,bif_f→Eg,callR→Eh,loop→Et
open List renaming getElem_mem→Eb,take_length→Ej,mem_cons_of_mem→El,length_append→Em,mem_cons_self→En,getElem_drop→Eo,getElem?_eq_getElem→Ep,length_cons→Eq_,mem_map→Er,all_eq_not_any_not→Es,mem_of_mem_take→Ev,flatMap_append→Ew
open Bool renaming not_true→Ed,not_false→Ei,eq_iff_iff→Ek,and_eq_false_iff→Eu,not_not→Ex
open ByteArray renaming size_append→Ee
section
set_option maxRecDepth 4096
namespace Go.Gw
open Go
attribute [local irreducible] loop
theorem QBs {p:Nf} (h:PlantS p) (n:Int):Qjp p n=some (bif XQ p n then 0 else 6):=by
 have:=h.se;unfold Qjp;rw [Qec,YD (by omega),Qj];show (bif !(XQ p n) then _ else _)=_;cases XQ p n<;>rfl
theorem QRz {p:Nf} (h:PlantS p) (n:Int):Qny p n=some (bif Zt p n then 0 else 6):=by
 have:=h.tr;unfold Qny;rw [Qec,YD (by omega),Qj];show (bif !(Zt p n) then _ else _)=_;cases Zt p n<;>rfl
/-! ### Which section leads to which -/
theorem Qxv {α:Type} (g:α->Bool):∀ (l:List α) (k:Nat) (b:Bool),fld (fun (_:Nat) (a:Bool) (x:α)=>a&&!(g x)) k b l=(b&&!(l.any g))
 | [],k,b=>by simp [fld]
 | x::l,k,b=>by
  unfold fld;rw [Qxv g l];simp only [List.any_cons];cases b<;>cases g x<;>simp
theorem QRu {p:Nf} {x:Nd} {r:Ns} {a b:Int} (h1:r.Nu.length=p.Nb.length) (h2:x.Nb.length=p.Nb.length) (h3:p.Nb.length < 1000):loop (Qjr r p x b a) (true,0)=some (YV p x.Nb r [a,b]):=by
 have hlen:(p.Nb.zip (r.Nu.zip x.Nb)).length=p.Nb.length:=by simp [h1,h2]
 have:=(Qzt (step:=Qjr r p x b a) (p.Nb.zip (r.Nu.zip x.Nb)) (fun _ (c:Bool) q=>c&&!(Qeg [a,b] q)) (fun c k=>(c,(k:Int))) (fun c=>c) (fun _ _=>True) true trivial (fun k hk c _=>by
  rw [hlen] at hk;refine ⟨?_,trivial⟩;unfold Qjr;simp only [XA hk,cond_true,Xh hk,Qj,Xj k (show k < 4611686018427387904 by omega),Xh (show k < r.Nu.length by omega),Xh (show k < x.Nb.length by omega),List.getElem_zip,Qeg];generalize hs:p.Nb[k].Nn=s;by_cases ha:s=a
  ·subst ha;cases c
   ·simp
   ·by_cases hn:x.Nb[k]=r.Nu[k]
    ·simp [hn]
    ·simp [hn,Ne.symm hn]
  ·by_cases hb:s=b
   ·subst hb;cases c
    ·simp [ha,hs]
    ·by_cases hn:x.Nb[k]=r.Nu[k]
     ·simp [hn,ha,hs]
     ·simp [hn,Ne.symm hn,ha,hs]
   ·cases c<;>simp [ha,hb,hs]) (fun c _=>by
  rw [hlen];unfold Qjr;simp only [XE];rfl)).1
 rw [Qxv,Bool.true_and] at this;exact this
theorem QRt {p:Nf} (hp:PlantOk p) {x:Nd} (h2:x.Nb.length=p.Nb.length) (a b:Int):Qoa p x a b=some (Qaa p x.Nb a b):=by
 have hw4:=hp.w4;have hr10:=hp.r10;have hs8:=hp.s8;unfold Qoa Qaa;have inner:∀ r∈p.Ni,loop (Qnz r p x b a) 0=some (if (Jk r a b&&YV p x.Nb r [a,b])=true then .inl (.inr (.inl true)) else .inr ()):=fun r hr=>by
  have hr2:=hp.r2 r hr;have hr8:=hp.r8 r hr;have hlen:(r.Ng.zip (r.Ng.drop 1)).length=r.Ng.length - 1:=by simp
  rw [Zf (r.Ng.zip (r.Ng.drop 1)) (fun q=>(decide (q.1=a)&&decide (q.2=b))&&YV p x.Nb r [a,b]) (fun _ _=>Sum.inr (.inl true)) (fun k hk=>by
   rw [hlen] at hk;unfold Qnz;rw [Xj k (by omega),XA (show k+1 < r.Ng.length by omega),cond_true,Xh (show k < r.Ng.length by omega),Qj,Xh (show k+1 < r.Ng.length by omega),QRu (hp.rn r hr) h2 (by omega)];simp only [List.getElem_zip,Eo,Qj];have e:r.Ng[1+k]'(by omega)=r.Ng[k+1]'(by omega) := by congr 1;omega
   rw [e];generalize YV p x.Nb r [a,b]=lb;by_cases h3:r.Ng[k]=a
   ·by_cases h4:r.Ng[k+1]=b
    ·cases lb<;>simp [h3,h4]
    ·cases lb<;>simp [h3,h4]
   ·cases lb<;>simp [h3]) (by
   rw [hlen];unfold Qnz;rw [Xj _ (by omega),show r.Ng.length - 1+1=r.Ng.length by omega,XE];rfl)]
  have ea:(r.Ng.zip (r.Ng.drop 1)).any (fun q=>(decide (q.1=a)&&decide (q.2=b))&&YV p x.Nb r [a,b])=(Jk r a b&&YV p x.Nb r [a,b]):=by
   unfold Jk;cases YV p x.Nb r [a,b]<;>simp
  rcases Jl (p:=fun q:Int×Int=>(decide (q.1=a)&&decide (q.2=b))&&YV p x.Nb r [a,b]) (res:=fun _ _=>(Sum.inr (.inl true):Int⊕(Bool⊕Unit))) (r.Ng.zip (r.Ng.drop 1)) 0 with ⟨k1,k2⟩ | ⟨j,y,k1,k2,k3⟩
  ·rw [k1,<-ea,k2];rfl
  ·rw [k1,<-ea,k3];rfl
 rw [Zf p.Ni (fun r=>Jk r a b&&YV p x.Nb r [a,b]) (fun _ _=>true),Qj]
 ·rcases Jl (p:=fun r=>Jk r a b&&YV p x.Nb r [a,b]) (res:=fun _ _=>true) p.Ni 0 with ⟨k1,k2⟩ | ⟨j,y,k1,k2,k3⟩
  ·rw [k1,k2];rfl
  ·rw [k1,k3];rfl
 ·intro k hk;unfold Qth;rw [XA hk,cond_true,Xh hk,Qj,inner _ (Eb hk),Xj k (by omega)];cases (Jk p.Ni[k] a b&&YV p x.Nb p.Ni[k] [a,b])<;>rfl
 ·unfold Qth;rw [XE];rfl
/-! ### Which states are right -/
theorem QNv {x:Nd} {n:Nat} {s:Int}:decide (s∈(x.Na.take n).flatMap (·.Nc))=(x.Na.take n).any fun o=>decide (s∈o.Nc):=by
 rw [Ek,decide_eq_true_eq,List.any_eq_true,List.mem_flatMap];simp only [decide_eq_true_eq]
theorem QBq {p:Nf} (hS:PlantS p) (hp:PlantOk p) {x:Nd} (h:StateS x) (h2:x.Nb.length=p.Nb.length) (n:Nat) (hn:n < x.Na.length) (hf:((x.Na.take n).flatMap (·.Nc)).length<=1000 * n) :
    loop (Qjq x.Na[n] p x) ((x.Na.take n).flatMap (·.Nc),0)=some (match Xz (JC p x n x.Na[n]) x.Na[n].Nc.length with | some k=>.inl (.inr (.inl (JC p x n x.Na[n] k))) | none=>.inr ((x.Na.take (n+1)).flatMap (·.Nc))):=by
  have hc:=h.ch _ (Eb hn);have hl:=h.tr;have e1:(x.Na.take (n+1)).flatMap (·.Nc)=(x.Na.take n).flatMap (·.Nc)++x.Na[n].Nc:=by
    rw [<-Qey _ _ hn,Ew];simp
  rw [e1];generalize hF:(x.Na.take n).flatMap (·.Nc)=F at hf ⊢;have hm:∀ s,decide (s∈F)=(x.Na.take n).any fun o=>decide (s∈o.Nc):=fun s=>by rw [<-hF];exact QNv
  have:=Qan (step:=Qjq x.Na[n] p x) (fun k=>(F++x.Na[n].Nc.take k,(k:Int))) x.Na[n].Nc.length (JC p x n x.Na[n]) (fun _ e=>(.inr (.inl e):((List Int)×Int)⊕(Int⊕Unit))) (F++x.Na[n].Nc) (fun k hk _=>by
    have hs:JC p x n x.Na[n] k=chE p x n x.Na[n] k x.Na[n].Nc[k]:=Jg _ _ _ hk;rw [hs];unfold Qjq chE;simp only [XA hk,cond_true,Xh hk,Qj,QBs hS];rw [Qic _ _ (by simp;omega),Qj,Zm (by simp;omega),Qj,Xj k (by omega),List.append_assoc,Qey _ _ hk,
      show decide (x.Na[n].Nc[k]∈F++x.Na[n].Nc.take k)=(decide (x.Na[n].Nc[k]∈x.Na[n].Nc.take k)||(x.Na.take n).any fun o=>decide (x.Na[n].Nc[k]∈o.Nc)) by
        rw [<-hm,Ek];simp [or_comm]]
    cases XQ p x.Na[n].Nc[k]
    · rfl
    cases (decide (x.Na[n].Nc[k]∈x.Na[n].Nc.take k)||(x.Na.take n).any fun o=>decide (x.Na[n].Nc[k]∈o.Nc))
    · simp only [cond_true,decide_true,Ed,cond_false];by_cases hk0:k=0
      · subst hk0;rfl
      · rw [decide_eq_true (show (0:Int) < (k:Int) by omega),show w64 ((k:Int) - 1)=((k - 1:Nat):Int) by rw [YD (by omega)];omega];simp only [cond_true,Xh (show k - 1 < x.Na[n].Nc.length by omega),Qj,QRt hp h2,if_neg hk0,Ep (show k - 1 < x.Na[n].Nc.length by omega),Option.getD_some];cases Qaa p x.Nb x.Na[n].Nc[k - 1] x.Na[n].Nc[k]<;>rfl
    · rfl) (fun _=>by
    unfold Qjq;simp only [XE,Ej];rfl)
  simp only [List.take_zero,List.append_nil,Int.natCast_zero] at this;exact this
theorem QRx {p:Nf} (hS:PlantS p) (hp:PlantOk p) {x:Nd} (h:StateS x):Qnx p x=some (Qev p x):=by
  have h1:=h.sw;have h2:=h.tr;have hw4:=hp.w4;have ht3:=hp.t3;unfold Qnx Qev;by_cases hl:x.Nb.length=p.Nb.length/\x.Na.length=p.Na.length
  · rw [if_pos hl,decide_eq_true (show (x.Nb.length:Int)=p.Nb.length by omega),decide_eq_true (show (x.Na.length:Int)=p.Na.length by omega)];simp only [Ed,Bool.or_self,cond_false];rw [Zf x.Nb (fun n=>!(Yb n)) (fun _ _=>2) (fun k hk=>by
      unfold Qtf;rw [XA hk,cond_true,Xh hk,Qj,QBp,Qj,Xj k (by omega)]) (by
      unfold Qtf;rw [XE];rfl),Qj]
    have ea:x.Nb.any (fun n=>!(Yb n))=!(x.Nb.all Yb):=by
      rw [Es,Ex]
    rcases Jl (p:=fun n=>!(Yb n)) (res:=fun _ _=>(2:Int)) x.Nb 0 with ⟨k1,k2⟩ | ⟨j,y,k1,k2,k3⟩
    · rw [k1];rw [ea,Bool.not_eq_false'] at k2;rw [k2,Bool.true_and];simp only [Xp];rw [show Qtg x.Nh=some (JM x.Nh) from rfl,Qj];cases JM x.Nh
      · rfl
      · simp only [Ed,cond_false,cond_true];have:=Qan (step:=Qnw p x) (fun n=>((x.Na.take n).flatMap (·.Nc),(n:Int))) x.Na.length (JW p x) (fun _ e=>e) () (fun n hn _=>by
          have hs:JW p x n=tsE p x n x.Na[n]:=Jg _ _ _ hn;have hf:∀ m,m<=x.Na.length->((x.Na.take m).flatMap (·.Nc)).length<=1000 * m:=fun m=>by
            induction m with
            | zero=>intro _;simp
            | succ m ih =>
              intro hm;rw [<-Qey _ _ (show m < x.Na.length by omega),Ew,Em];have:=ih (by omega);have:=h.ch _ (Eb (show m < x.Na.length by omega));rw [show ([x.Na[m]]:List Nl).flatMap (·.Nc)=x.Na[m].Nc by simp];omega
          have hc:=h.ch _ (Eb hn);rw [hs];unfold Qnw tsE;simp only [XA hn,cond_true,Xh hn,Qj,Qec];have eu:(((decide ((x.Na[n].Nc.length:Int)=0))&&(!decide (x.Na[n].Nm=0)))||((decide (0 < (x.Na[n].Nc.length:Int)))&&(!(decide (1<=x.Na[n].Nm)&&decide (x.Na[n].Nm<=(x.Na[n].Nc.length:Int))))))=!(Qah x.Na[n]):=by
            unfold Qah;by_cases h0:x.Na[n].Nc.length=0
            · rw [if_pos h0,decide_eq_true (show (x.Na[n].Nc.length:Int)=0 by omega),decide_eq_false (show ¬ (0:Int) < x.Na[n].Nc.length by omega)];simp
            · rw [if_neg h0,decide_eq_false (show ¬ (x.Na[n].Nc.length:Int)=0 by omega),decide_eq_true (show (0:Int) < x.Na[n].Nc.length by omega)];simp
          by_cases h0:x.Na[n].Nc.length=0
          · have g1:decide ((x.Na[n].Nc.length:Int)=0)=true:=decide_eq_true (by omega);have g2:decide ((0:Int) < x.Na[n].Nc.length)=false:=decide_eq_false (by omega);rw [g1,g2] at eu ⊢;simp only [Bool.and_false,cond_false,Qj,Bool.false_and,Bool.or_false] at eu ⊢;rw [eu];cases Qah x.Na[n]
            · rfl
            · simp only [Ed,cond_false,cond_true];rw [QBq hS hp h hl.1 n hn (hf n (by omega)),Qj];cases hfe:Xz (JC p x n x.Na[n]) x.Na[n].Nc.length with
              | some k=>rw [if_neg (Qak hfe).2.1];rfl
              | none=>rw [if_pos rfl];simp only [Xp];rw [Xj n (by omega)]
          · have g1:decide ((x.Na[n].Nc.length:Int)=0)=false:=decide_eq_false (by omega);have g2:decide ((0:Int) < x.Na[n].Nc.length)=true:=decide_eq_true (by omega);rw [g1,g2] at eu ⊢;simp only [Bool.false_and,Ei,Bool.and_true,cond_true,Qj] at eu ⊢;rw [eu];cases Qah x.Na[n]
            · rfl
            · simp only [Ed,cond_false,cond_true];rw [QBq hS hp h hl.1 n hn (hf n (by omega)),Qj];cases hfe:Xz (JC p x n x.Na[n]) x.Na[n].Nc.length with
              | some k=>rw [if_neg (Qak hfe).2.1];rfl
              | none=>rw [if_pos rfl];simp only [Xp];rw [Xj n (by omega)]) (fun _=>by
          unfold Qnw;simp only [XE];rfl)
        simp only [List.take_zero,List.flatMap_nil,Int.natCast_zero] at this;rw [this,Qj];cases Xz (JW p x) x.Na.length<;>rfl
    · rw [k1];rw [ea,Bool.not_eq_true'] at k3;rw [k3];rfl
  · rw [if_neg hl, show (!decide ((x.Nb.length : Int) = p.Nb.length) || !decide ((x.Na.length : Int) = p.Na.length)) = true by
      simp only [Bool.or_eq_true,Bool.not_eq_true',decide_eq_false_iff_not];omega]
    rfl
end Go.Gw

end
section
set_option maxRecDepth 4096
namespace Go.Gw
open Go
attribute [local irreducible] loop
theorem Qyi {α:Type} {xs:List α} (h:0 < xs.length):idx xs 0=some xs[0]:=Xh (k:=0) h
/-! ### What lies in a list and meets a test -/
def J8 {α β:Type} (p:α->Bool) (g:Nat->α->β):Nat->List α->List β
 | _,[]=>[]
 | k,x::l=>if p x=true then g k x::J8 p g (k+1) l else J8 p g (k+1) l
theorem Qxs {α:Type} {p:α->Bool} {i:Int}:∀ (l:List α) (k:Nat),i∈J8 p (fun k _=>(k:Int)) k l↔∃ j,∃ h:j < l.length,p l[j]=true/\i=((k+j:Nat):Int)
 | [],k=>by simp [J8]
 | x::l,k=>by
  have ih:=Qxs (p:=p) (i:=i) l (k+1);unfold J8;by_cases hp:p x=true
  ·rw [if_pos hp,List.mem_cons,ih];constructor
   ·rintro (h | ⟨j,hj,h1,h2⟩)
    ·grind
    ·exact ⟨j+1,by grind,by grind,by omega⟩
   grind
  ·rw [if_neg hp,ih];constructor
   ·rintro ⟨j,hj,h1,h2⟩;exact ⟨j+1,by grind,by grind,by omega⟩
   grind
theorem QNj {α β σ ρ:Type} {step:σ->Option (σ⊕ρ)} (l:List α) (p:α->Bool) (g:Nat->α->β) (S:List β->Nat->σ) (o:List β->ρ)
  (hs:∀ k (hk:k < l.length) acc,acc.length<=k->step (S acc k)=some (.inl (S (if p l[k]=true then acc++[g k l[k]] else acc) (k+1)))) (he:∀ acc,step (S acc l.length)=some (.inr (o acc))):loop step (S [] 0)=some (o (J8 p g 0 l)):=by
 have key:∀ j k acc,acc.length<=k->j+k=l.length->loop step (S acc k)=some (o (acc++J8 p g k (l.drop k))):=by
  intro j
  induction j with
  | zero =>
   grind [Jv,J8,List.drop_length]
  | succ j ih =>
   intro k acc ha hk;have hlt:k < l.length:=by omega
   rw [List.drop_eq_getElem_cons hlt,JP (hs k hlt acc ha)];by_cases hp:p l[k]=true
   ·rw [if_pos hp,ih (k+1) _ (by simp;omega) (by omega)];simp [J8,hp]
   ·rw [if_neg hp,ih (k+1) _ (by omega) (by omega)];simp [J8,hp]
 simp_all
theorem QIe {p:Nf} (hp:PlantOk p):(ZW p).length<=280:=by
 have hs8:=hp.s8;have ht3:=hp.t3;have hw4:=hp.w4;have hr10:=hp.r10;have hfl:∀ {β:Type} (f:Nat->List β) (M n:Nat),(∀ k,(f k).length<=M)->((List.range n).flatMap f).length<=n * M:=fun f M n h=>by
  induction n with
  | zero=>simp
  | succ n ih =>
   grind [List,Nat,List.range_succ,Em,Nat.succ_mul]
 refine hfl _ 40 7 fun k=>?_;have h1:Zw p k<=4:=by grind [Zw]
 have h2:YY p k<=10:=by grind [YY]
 have:=hfl (fun a=>(List.range (YY p k)).flatMap fun b=>[Ys k a b]) 10 (Zw p k) fun a=>by
  have:=hfl (fun b=>[Ys k a b]) 1 (YY p k) fun _=>by simp
  omega
 omega
def Qel (p:Nf) (x:Nd):List Int:=J8 (fun s:Nt=>YI x s.Nn) (fun k _=>(k:Int)) 0 p.Nb
end Go.Gw

end
section
set_option maxRecDepth 4096
namespace Go.Gw
open Go
attribute [local irreducible] loop
theorem QCv {α:Type} {p:α->Bool}:∀ (l:List α) (m:Nat),(Ym p (fun k _=>(k:Int)) m l=.inr ()/\l.any p=false)\/∃ j,∃ h:j < l.length,Ym p (fun k _=>(k:Int)) m l=.inl ((m+j:Nat):Int)/\p l[j]=true
 | [],m=>.inl ⟨rfl,rfl⟩
 | x::l,m=>by
  by_cases hp:p x=true
  ·exact .inr ⟨0,by simp,by simp [Ym,hp],by simpa using hp⟩
  ·rcases QCv (p:=p) l (m+1) with ⟨h1,h2⟩ | ⟨j,hj,h1,h2⟩
   ·exact .inl ⟨by simp [Ym,hp,h1],by simp [hp,h2]⟩
   ·exact .inr ⟨j+1,by simpa using hj,by simp only [Ym,hp];rw [h1];simp;omega,by simpa using h2⟩
theorem Qyt {α:Type} (p:α->Bool) (l:List α):(Qbj p l=-1/\l.any p=false)\/∃ j,∃ h:j < l.length,Qbj p l=(j:Int)/\p l[j]=true:=by
 unfold Qbj;rcases QCv (p:=p) l 0 with ⟨h1,h2⟩ | ⟨j,hj,h1,h2⟩
 ·exact .inl ⟨by rw [h1],h2⟩
 ·exact .inr ⟨j,hj,by rw [h1];simp,h2⟩
theorem QAw {α:Type} {l:List α} (h:l.Nodup) {i j:Nat} (hi:i < l.length) (hj:j < l.length) (e:l[i]=l[j]):i=j:=by
 unfold List.Nodup at h;rw [List.pairwise_iff_getElem] at h;rcases Nat.lt_trichotomy i j with h1 | h1 | h1
 ·exact absurd e (h i j hi hj h1)
 ·exact h1
 ·exact absurd e.symm (h j i hj hi h1)
theorem QLk {p:Nf} (hp:PlantOk p) {x:Nd} (h2:x.Nb.length=p.Nb.length) (a b:Int):Qms (some ⟨p,x⟩) a b=some (Qaa p x.Nb a b):=by
  have hw4:=hp.w4;have hr10:=hp.r10;have hs8:=hp.s8;unfold Qms Qaa;rw [Qj,Zf p.Ni (fun r=>Jk r a b&&YV p x.Nb r [a,b]) (fun _ _=>true),Qj]
  · rcases Jl (p:=fun r=>Jk r a b&&YV p x.Nb r [a,b]) (res:=fun _ _=>true) p.Ni 0 with ⟨k1,k2⟩ | ⟨j,y,k1,k2,k3⟩
    · rw [k1,k2];rfl
    · rw [k1,k3];rfl
  · intro k hk;have hr:=Eb hk;unfold Qsh;simp only [XA hk,cond_true,Xh hk,Qj];generalize p.Ni[k]=r at hr ⊢;have hr2:=hp.r2 r hr;have hr8:=hp.r8 r hr;have hrd:=hp.rd r hr;rw [Qys _ _ (by omega),Qj,Qzc (hp.rn r hr) h2 (by omega) (by simp),Xj k (by omega)];rcases Qyt (fun x=>decide (a=x)) r.Ng with ⟨h3,h4⟩ | ⟨j,hj,h3,h4⟩
    · rw [h3];have h5:Jk r a b=false:=by
        cases hb:Jk r a b with
        | false=>rfl
        | true =>
          obtain ⟨j,hj,h6,_⟩:=pairB_iff.1 hb;rw [Qvz,decide_eq_false_iff_not] at h4;exact absurd (h6▸Eb _) h4
      rw [h5];rfl
    · rw [h3];have h4:a=r.Ng[j]:=by simpa using h4
      rw [decide_eq_true (show (0:Int)<=(j:Int) by omega),Xj j (by omega)];by_cases h5:j+1 < r.Ng.length
      · rw [XA h5];simp only [Bool.and_self,cond_true];rw [Xh h5,Qj];have h6:Jk r a b=decide (r.Ng[j+1]=b):=by
          rw [Ek,pairB_iff,decide_eq_true_eq];constructor
          · rintro ⟨i,hi,h7,h8⟩;have:i=j:=QAw hrd (by omega) hj (h7.trans h4);subst this;exact h8
          · intro h7;exact ⟨j,h5,h4.symm,h7⟩
        rw [h6];cases decide (r.Ng[j+1]=b)<;>rfl
      · rw [decide_eq_false (show ¬ ((j+1:Nat):Int) < r.Ng.length by omega)];have h6:Jk r a b=false:=by
          cases hb:Jk r a b with
          | false=>rfl
          | true =>
            obtain ⟨i,hi,h7,_⟩:=pairB_iff.1 hb;have:i=j:=QAw hrd (by omega) hj (h7.trans h4);omega
        rw [h6];rfl
  · unfold Qsh;simp only [XE];rfl
theorem Qxw {α:Type} (g:α->Bool):∀ (l:List α) (k:Nat) (b:Bool),fld (fun (_:Nat) (a:Bool) (x:α)=>a||g x) k b l=(b||l.any g)
 | [],k,b=>by simp [fld]
 | x::l,k,b=>by
  unfold fld;rw [Qxw g l];simp [Bool.or_assoc]
theorem QGl (l:List Nl) (h:∀ t∈l,t.Nc.length < 1000) (hl:l.length < 1000) (s:Int) (b:Bool):loop (Qim s l) (b,0)=some (b||l.any fun o=>decide (s∈o.Nc)):=by
 have:=(Qzt (step:=Qim s l) l (fun _ (c:Bool) o=>c||decide (s∈o.Nc)) (fun c k=>(c,(k:Int))) (fun c=>c) (fun _ _=>True) b trivial (fun k hk c _=>by
  refine ⟨?_,trivial⟩;unfold Qim;simp only [XA hk,cond_true,Xh hk,Qj,Xj k (show k < 4611686018427387904 by omega),Qed _ _ (show l[k].Nc.length < 1000000 by have:=h _ (Eb hk);omega)];cases c<;>rfl) (fun c _=>by
  unfold Qim;simp only [XE];rfl)).1
 rw [Qxw] at this;exact this
theorem QWg (t:Nl):JO t.Nm (if (t.Nc.length:Int) < 1 then (t.Nc.length:Int) else 1) (t.Nc.length:Int)=some (Qah t):=by
 rw [Qve];congr 1;unfold Qah;by_cases h0:t.Nc.length=0
 ·rw [if_pos h0,if_pos (show (t.Nc.length:Int) < 1 by omega),Ek];simp only [Bool.and_eq_true,decide_eq_true_eq];omega
 ·rw [if_neg h0,if_neg (show ¬ (t.Nc.length:Int) < 1 by omega)]
theorem QLf {p:Nf} (hS:PlantS p) (hp:PlantOk p) {x:Nd} (h:StateS x) (h2:x.Nb.length=p.Nb.length) (n:Nat) (hn:n < x.Na.length):Qmr (some ⟨p,x⟩) (n:Int)=some (JW p x n):=by
  have hs:JW p x n=tsE p x n x.Na[n]:=Jg _ _ _ hn;have hc:=h.ch _ (Eb hn);have hl:=h.tr;rw [hs];unfold Qmr tsE;simp only [Qj,Xh hn];rw [QWg,Qj];cases Qah x.Na[n]
  · rfl
  simp only [Ed,cond_false,cond_true];have key:loop (Qmq x.Na[n] (some ⟨p,x⟩) (n:Int)) 0=some (match Xz (JC p x n x.Na[n]) x.Na[n].Nc.length with | some i=>.inl (JC p x n x.Na[n] i) | none=>.inr ()) :=
    Qan (fun k=>(k:Int)) x.Na[n].Nc.length (JC p x n x.Na[n]) (fun _ e=>e) () (fun k hk _=>by
      have hs:JC p x n x.Na[n] k=chE p x n x.Na[n] k x.Na[n].Nc[k]:=Jg _ _ _ hk;rw [hs];unfold Qmq chE;simp only [XA hk,cond_true,Xh hk,Qj];rw [Qee (by omega),Qj,Qed _ _ (by simp;omega),Qj,Qee (by omega),Qj,
        QGl _ (fun t ht=>h.ch t (Ev ht)) (by simp;omega),Qj,Qoq hS,Qj,Yt,Qj,Xj k (by omega)]
      generalize (decide (x.Na[n].Nc[k]∈x.Na[n].Nc.take k)||(x.Na.take n).any fun o=>decide (x.Na[n].Nc[k]∈o.Nc))=bb;by_cases hk0:k=0
      · subst hk0;simp only [Int.natCast_zero,decide_true,Ed,cond_false,Qj,Bool.true_or,if_true,Yt,cond_true];rw [ZL _ (by simp),Qj,Qfx];cases XQ p x.Na[n].Nc[0]<;>cases bb<;>rfl
      · rw [decide_eq_false (show ¬ (k : Int) = 0 by omega), show w64 ((k : Int) - 1) = ((k - 1 : Nat) : Int) by rw [YD (by omega)]; omega,
          show (if (0:Int) < ((k - 1:Nat):Int) then ((k - 1:Nat):Int) else 0)=((k - 1:Nat):Int) by split<;>omega]
        simp only [Ei,cond_true,Xh (show k - 1 < x.Na[n].Nc.length by omega),Qj,QLk hp h2,if_neg hk0,Ep (show k - 1 < x.Na[n].Nc.length by omega),Option.getD_some,Bool.false_or,Yt];rw [ZL _ (by simp),Qj,Qfx];cases XQ p x.Na[n].Nc[k]<;>cases bb<;>cases Qaa p x.Nb x.Na[n].Nc[k - 1] x.Na[n].Nc[k]<;>rfl) (fun _=>by
      unfold Qmq;simp only [XE];rfl)
  rw [key,Qj];cases Xz (JC p x n x.Na[n]) x.Na[n].Nc.length<;>rfl
theorem QRk (l:List Int) (hl:l.length < 1000):Qou l=some (!(l.all Yb)):=by
 unfold Qou Qty;rw [Zf l (fun n=>!(Yb n)) (fun k _=>(k:Int)),Qj,Qgz,Qj,Qkc]
 ·rw [Es,Ex]
 ·intro k hk;unfold Qtx;rw [XA hk,Xh hk,Xj k (by omega)];rfl
 ·unfold Qtx;rw [XE];rfl
def Z0 (p:Nf) (x:Nd):Int:=if (Jy p).2=0 then Qev p x else (Jy p).2
theorem Qji {p:Nf} (hS:PlantS p) {x:Nd} (h:StateS x):Qdc p x=some (if Z0 p x=0 then (some ⟨p,x⟩,0) else (none,Z0 p x)):=by
  have h1:=h.sw;have h2:=h.tr;have h3:=hS.sw;have h4:=hS.tr;unfold Qdc Z0;rw [QRk _ (by omega),Qj,QRj hS,Qj,Yt,Qj,Ex];by_cases hp0:(Jy p).2=0
  · have hp:=Qnq hp0;simp only [if_pos hp0,hp0];unfold Qev;by_cases hl:x.Nb.length=p.Nb.length/\x.Na.length=p.Na.length
    · rw [if_pos hl,decide_eq_true (show (x.Nb.length:Int)=p.Nb.length by omega),decide_eq_true (show (x.Na.length:Int)=p.Na.length by omega)];have e1:∀ (f:Bool->Option (Option Np×Int)),(Option.bind (bif x.Nb.all Yb then Qil x.Nh else some default) f)=f (bif x.Nb.all Yb then JM x.Nh else default):=fun f=>by
        cases x.Nb.all Yb<;>rfl
      rw [e1,Yt,Qj,ZL _ (by simp),Qj,Qfx];cases ha:x.Nb.all Yb
      · rfl
      · cases hb:JM x.Nh
        · rfl
        · simp only [Bool.and_self,cond_true,ne_eq,not_true_eq_false,if_false,decide_true,Ed,cond_false];have key:loop (Qmw p x) 0=some (match Xz (JW p x) x.Na.length with | some i=>.inl (none,JW p x i) | none=>.inr ()) :=
            Qan (fun k=>(k:Int)) x.Na.length (JW p x) (fun _ e=>(none,e)) () (fun k hk _=>by
              unfold Qmw;rw [XA hk,cond_true,QLf hS hp h hl.1 k hk,Qj,Xj k (by omega)];by_cases h5:JW p x k=0
              · rw [if_pos h5,decide_eq_true h5];rfl
              · rw [if_neg h5,decide_eq_false h5];rfl) (fun _=>by
              unfold Qmw;rw [XE];rfl)
          rw [key,Qj];cases hf:Xz (JW p x) x.Na.length with
          | some i =>
            have h5:=(Qak hf).2.1;simp [Xp,h5]
          | none=>rfl
    · rw [if_neg hl, show (decide ((x.Nb.length : Int) = p.Nb.length) && decide ((x.Na.length : Int) = p.Na.length)) = false by
        rw [Eu,decide_eq_false_iff_not,decide_eq_false_iff_not];omega]
      have e1:∀ (f:Bool->Option (Option Np×Int)),(Option.bind (bif x.Nb.all Yb then Qil x.Nh else some default) f)=f (bif x.Nb.all Yb then JM x.Nh else default):=fun f=>by
        cases x.Nb.all Yb<;>rfl
      rw [e1,Yt,Qj,ZL _ (by simp),Qj,Qfx];rfl
  · simp only [if_neg hp0];have e1:∀ (f:Bool->Option (Option Np×Int)),(Option.bind (bif x.Nb.all Yb then Qil x.Nh else some default) f)=f (bif x.Nb.all Yb then JM x.Nh else default):=fun f=>by
      cases x.Nb.all Yb<;>rfl
    rw [e1,Yt,Qj,ZL _ (by simp),Qj,Qfx,if_pos hp0,decide_eq_false hp0];rfl
theorem QBh {p:Nf} {x:Nd} (h:Z0 p x=0):PlantOk p/\StateOk p x/\(Jy p).2=0:=by
 unfold Z0 at h;by_cases hp0:(Jy p).2=0
 ·rw [if_pos hp0] at h;exact ⟨Qnq hp0,state_iff.1 h,hp0⟩
 ·rw [if_neg hp0] at h;exact absurd h hp0
theorem Qgo {p:Nf} {x:Nd} (h0:(Jy p).2=0) (h:StateOk p x):Z0 p x=0:=by
 unfold Z0;rw [if_pos h0];exact state_iff.2 h
theorem QLg {p:Nf} (hS:PlantS p) {x:Nd} (h:StateS x):Qmk p x=some (Z0 p x):=by
 unfold Qmk;rw [Qji hS h,Qj];by_cases h0:Z0 p x=0
 ·rw [if_pos h0,h0]
 ·rw [if_neg h0]
def Qlb (p:Nf) (x:Nd) (e:Nj):Nd×Int:=if Z0 p x=0 then (if evE p x e=0 then (XC p x e,0) else (QEu,evE p x e)) else (QEu,Z0 p x)
theorem QLe {p:Nf} (hS:PlantS p) {x:Nd} (h:StateS x) (e:Nj):Qmg p x e=some (Qlb p x e):=by
 unfold Qmg Qlb;rw [Qji hS h,Qj];by_cases h0:Z0 p x=0
 ·obtain ⟨hp,hx,_⟩:=QBh h0;simp only [if_pos h0,decide_true,cond_true];rw [QIf hS,Qj,Qj];unfold evE;by_cases h1:ZB p e=0
  ·obtain ⟨r,hr,h2,h3⟩:=Qwd hp hx h1;simp only [if_pos h1,decide_eq_true h1,cond_true];rw [hr,Qj,Qj,h2];by_cases h4:Zc p x e=0
   ·rw [if_pos h4,h3 h4,decide_eq_true h4];simp only [Ed,cond_false];rw [QVz p ((Qew hp hx h1 h4).s hp)];rfl
   ·rw [if_neg h4,decide_eq_false h4];rfl
  ·simp only [if_neg h1,decide_eq_false h1,cond_false,Qj,Ei,cond_true];rfl
 ·simp only [if_neg h0,decide_eq_false h0,cond_false,Qj,Ei,cond_true];rfl
theorem QLl {p:Nf} (hS:PlantS p) {x:Nd} (h:StateS x):Qmn p x=some (if Z0 p x=0 then (Qel p x,0) else ([],Z0 p x)):=by
  have h1:=hS.sw;unfold Qmn;rw [Qji hS h,Qj];by_cases h0:Z0 p x=0
  · simp only [if_pos h0,decide_true,Ed,cond_false];have:=QNj (step:=Qih p (some ⟨p,x⟩,0)) p.Nb (fun s:Nt=>YI x s.Nn) (fun k _=>(k:Int)) (fun acc k=>(acc,(k:Int))) (fun acc=>acc) (fun k hk acc ha=>by
      unfold Qih;simp only [XA hk,cond_true,Xh hk,Qj,Qoz p h _ (show ([p.Nb[k].Nn]:List Int).length < 1000 by simp),List.any_cons,List.any_nil,Bool.or_false];cases YI x p.Nb[k].Nn
      · simp only [cond_false,Bool.false_eq_true,if_false,Xj k (show k < 4611686018427387904 by omega)]
      · simp only [cond_true,if_true];rw [Zm (by simp;omega),Qj,Xj k (by omega)]) (fun acc=>by
      unfold Qih;simp only [XE];rfl)
    have l2:loop (Qih p (some ⟨p,x⟩,0)) (([]:List Int),0)=some (Qel p x):=this;rw [l2];rfl
  · simp only [if_neg h0,decide_eq_false h0,Ei,cond_true]
theorem QLj {p:Nf} (hS:PlantS p) {x:Nd} (h:StateS x) (s:Int):Qmm p x s=some (if Z0 p x=0 then (bif XQ p s then ((if 0 < X0 x s then X0 x s else 0),bif YI x s then 0 else 12) else (0,6)) else (0,Z0 p x)):=by
 unfold Qmm;rw [Qji hS h,Qj,Qoq hS,Qj,ZL _ (by simp),Qj,Qyd];by_cases h0:Z0 p x=0
 ·simp only [if_pos h0,ne_eq,not_true_eq_false,if_false];cases XQ p s
  ·rfl
  ·simp only [cond_true,decide_true,Ed,cond_false];rw [Qyh p h,Qj,Yt,Qj,Qyg]
 ·simp only [if_neg h0];rw [if_pos h0,decide_eq_false h0];rfl
end Go.Gw

end
section
set_option maxRecDepth 4096
namespace Go.Gw
open Go
attribute [local irreducible] loop
theorem Que (x:Nd):Nd.mk x.Nb x.Na x.Nh=x:=rfl
end Go.Gw

end
section
set_option maxRecDepth 4096
namespace Go.Gw
open Go
attribute [local irreducible] loop
def Zx (l:List ByteArray):ByteArray:=l.foldl (·++·) ByteArray.empty
theorem QGq (l:List ByteArray) (x:ByteArray):Zx (l++[x])=Zx l++x:=by simp [Zx,List.foldl_append]
theorem QGp {m:Nat}:∀ {l:List ByteArray},(∀ s∈l,s.size<=m)->(Zx l).size<=l.length * m:=by
 have key:∀ (l:List ByteArray) (a:ByteArray),(∀ s∈l,s.size<=m)->(l.foldl (·++·) a).size<=a.size+l.length * m:=by
  intro l
  induction l with
  | nil=>intro a _;simp
  | cons x l ih =>
   intro a h;have h1:=ih (a++x) fun s hs=>h s (El _ hs)
   have h2:=h x (En ..);rw [Ee] at h1;rw [List.foldl_cons,Eq_,Nat.succ_mul];omega
 intro l h;have:=key l ByteArray.empty h;simpa [Zx] using this
def Ze (sep:ByteArray):List ByteArray->ByteArray
 | []=>ByteArray.empty
 | a::l=>l.foldl (fun r x=>r++sep++x) a
theorem QLc {sep:ByteArray} {l:List ByteArray} (h:l≠[]) (x:ByteArray):Ze sep (l++[x])=Ze sep l++sep++x:=by
 cases l with
 | nil=>exact absurd rfl h
 | cons a l=>simp [Ze,List.foldl_append]
theorem Qyv {sep:ByteArray} {m:Nat} (hs:sep.size<=1):∀ {l:List ByteArray},(∀ s∈l,s.size<=m)->(Ze sep l).size<=l.length * (m+1):=by
 have key:∀ (l:List ByteArray) (a:ByteArray),(∀ s∈l,s.size<=m)->(l.foldl (fun r x=>r++sep++x) a).size<=a.size+l.length * (m+1):=by
  intro l
  induction l with
  | nil=>intro a _;simp
  | cons x l ih =>
   intro a h;have h1:=ih (a++sep++x) fun s hs=>h s (El _ hs)
   have h2:=h x (En ..);rw [Ee,Ee] at h1;rw [List.foldl_cons,Eq_,Nat.succ_mul];omega
 intro l h;cases l with
 | nil=>simp [Ze]
 | cons a l =>
  have h1:=key l a fun s hs=>h s (El _ hs)
  have h2:=h a (En ..);rw [Eq_,Nat.succ_mul];show (l.foldl (fun r x=>r++sep++x) a).size<=_;omega
theorem Qwp {a b:ByteArray} (h:a.size+b.size<=1048576):cat a b=some (a++b):=by unfold cat;rw [if_pos h]
theorem Qyx {l:List ByteArray} {sep:ByteArray} (hs:sep.size=1) (hl:l.length<=1000) (hm:∀ s∈l,s.size<=100000):Qhb l sep=some (Ze sep l):=by
  refine Runs.eq ?_;unfold Qhb;by_cases h0:l.length=0
  · have:l=[]:=List.length_eq_zero_iff.1 h0;subst this;exact Ef rfl (Ec rfl)
  refine Eg (by simp;intro e;subst e;exact h0 rfl) ?_;by_cases h1:l.length=1
  · refine Ef (by rw [h1];rfl) (Ea (Qyi (by omega)) (Ec ?_));obtain ⟨a,rfl⟩:=List.length_eq_one_iff.1 h1;rfl
  refine Eg (by rw [decide_eq_false];omega) ?_;have e1:w64 ((l.length:Int) - 1)=((l.length - 1:Nat):Int):=by rw [YD (by omega)];omega
  rw [hs,e1];refine Eh (R:=fun x=>x=((l.length - 1:Nat):Int)) (Ef rfl (Ea (QRq (by omega)) (Eh (R:=fun _=>True) (Eg ?_ (Ec trivial)) fun _ _=>Ec ?_))) ?_
  · refine decide_eq_false ?_;have h2:Int.tdiv 9223372036854775807 ((l.length - 1:Nat):Int)=((9223372036854775807 / (l.length - 1):Nat):Int):=rfl;have h3:9223372036854775807 / (l.length - 1)<=9223372036854775807:=Nat.div_le_self _ _;have h4:1000<=9223372036854775807 / (l.length - 1):=by
      rw [Nat.le_div_iff_mul_le (by omega)];omega
    rw [h2,YD (by omega)];omega
  · rw [YD (x:=((1:Nat):Int) * ((l.length - 1:Nat):Int)) (by omega),YD (by omega)];omega
  rintro _ rfl;refine Eh (R:=fun x=>0<=x/\x<=1000+100000 * 1000) (Et (fun s=>∃ k:Nat,s.2=(k:Int)/\k<=l.length/\0<=s.1/\s.1<=1000+100000 * (k:Int)) (fun s=>l.length - s.2.toNat) ⟨0,rfl,Nat.zero_le _,by show (0:Int)<=((l.length - 1:Nat):Int);omega,by show ((l.length - 1:Nat):Int)<=_;omega⟩ ?_) ?_
  · rintro ⟨x,_⟩ ⟨k,rfl,hk,h2,h3⟩;dsimp only at h2 h3;unfold QDc;by_cases hlt:k < l.length
    · have h4:=hm _ (Eb hlt);refine Ef (XA hlt) (Ea (Xh hlt) (Eg ?_ (Ec ⟨⟨k+1,?_,by omega,?_,?_⟩,?_⟩)))
      · rw [YD (by omega)];exact decide_eq_false (by omega)
      · exact Xj k (by omega)
      · show 0<=w64 (x+(l[k].size:Int));rw [YD (by omega)];omega
      · show w64 (x+(l[k].size:Int))<=_;rw [YD (by omega)];omega
      · show l.length - (w64 ((k:Int)+1)).toNat < l.length - ((k:Nat):Int).toNat;rw [Xj k (by omega)];simp;omega
    · have:k=l.length:=by omega
      subst this;refine Eg (XE _) (Ec ⟨h2,?_⟩);show x<=_;omega
  rintro x ⟨h2,h3⟩;have hg:grw x=some ():=by unfold grw;rw [if_pos (by omega)]
  refine Ea hg (Ea (Qyi (by omega)) (Ea (Zm (by rw [ZV];have:=hm _ (Eb (show 0 < l.length by omega));simp;omega)) ?_));have hcut:cut l 1 (l.length:Int)=some (l.drop 1):=Qqs (by omega);refine Ea hcut ?_;have hjs:∀ k,k<=l.length->(Ze sep (l.take k)).size<=1000 * 100001:=fun k hk=>by
    have:=Qyv (sep:=sep) (m:=100000) (by omega) (l:=l.take k) fun s hs=>hm s (Ev hs)
    have h5:(l.take k).length<=1000:=by simp;omega
    exact Nat.le_trans this (Nat.mul_le_mul_right _ h5)
  refine Runs.bind (Runs.mono (Q:=fun xs=>xs=bl (Ze sep l)) (Et (fun s=>∃ k:Nat,s=((k:Int),bl (Ze sep (l.take (k+1))))/\k+1<=l.length) (fun s=>l.length - s.1.toNat) ⟨0,?_,by omega⟩ ?_) ?_)
  · have : l.take (0 + 1) = [l[0]'(by omega)] := by
      cases l with
      | nil=>exact absurd rfl h0
      | cons a l=>rfl
    rw [this];rfl
  · rintro _ ⟨k,rfl,hk⟩;unfold QDd;have hdl:(l.drop 1).length=l.length - 1:=by simp
    by_cases hlt:k+1 < l.length
    · have h4:=hm _ (Eb hlt);have h5:=hjs (k+1) hk;have h6:((l.drop 1)[k]'(by omega)).size<=100000 := by rw [Eo];exact hm _ (Eb _)
      have h7:(bl (Ze sep (l.take (k+1)))).length+(bl sep).length<=1073741824:=by rw [ZV,ZV,hs];omega
      have h8:(bl (Ze sep (l.take (k+1)))++bl sep).length+(bl ((l.drop 1)[k]'(by omega))).length<=1073741824 := by rw [Em, ZV, ZV, ZV, hs];omega
      refine Ef (XA (by omega)) (Ea (Xh (xs:=l.drop 1) (by omega)) (Ea (Zm h7) (Ea (Zm h8) (Ec ⟨⟨k+1,?_,by omega⟩,?_⟩))))
      · rw [Xj k (by omega),<-Qlf,<-Qlf,<-QLc (List.ne_nil_of_length_pos (by rw [List.length_take];omega))];have:l.take (k+1)++[(l.drop 1)[k]'(by omega)]=l.take (k+1+1) := by
          rw [Eo,<-Qey l (k+1) hlt];simp only [Nat.add_comm]
        rw [this]
      · show l.length - (w64 ((k:Int)+1)).toNat < l.length - ((k:Nat):Int).toNat;rw [Xj k (by omega)];simp;omega
    · refine Eg ?_ (Ec ?_)
      · have:k=(l.drop 1).length:=by omega
        subst this;exact XE _
      · show bl (Ze sep (l.take (k+1)))=_;rw [List.take_of_length_le (by omega)]
  · rintro _ rfl;exact Ec (Qnn _)
/-! ### The text -/
noncomputable def Ya (n:Int):ByteArray:=(Qfn n).getD ByteArray.empty
structure DecOk (n:Int):Prop where
 i:Qae n=some (Ya n)
 d:Qfn n=some (Ya n)
 s:(Ya n).size<=20
theorem QHd:∀ n:Fin 100,(match Qae ((n.val:Nat):Int),Qfn ((n.val:Nat):Int) with
  | some a,some b=>decide (a=b)&&decide (a.size<=20)
  | _,_=>false)=true:=by decide +kernel
theorem Qqu {n:Int} (h0:0<=n) (h:n < 100):DecOk n:=by
 have:=QHd ⟨n.toNat,by omega⟩;rw [show ((((⟨n.toNat,by omega⟩:Fin 100).val:Nat)):Int)=n by show ((n.toNat:Nat):Int)=n;omega] at this;cases hi:Qae n with
 | none=>rw [hi] at this;cases this
 | some a =>
  cases hd:Qfn n with
  | none=>rw [hi,hd] at this;cases this
  | some b =>
   rw [hi,hd] at this;simp only [Bool.and_eq_true,decide_eq_true_eq] at this;have hb:Ya n=b:=by unfold Ya;rw [hd];rfl
   exact ⟨by rw [hb,hi,this.1],by rw [hb,hd],by rw [hb,<-this.1];exact this.2⟩
theorem QLa:Qae 0=some ⟨#[48]⟩:=by decide +kernel
theorem QLb:Qae 1=some ⟨#[49]⟩:=by decide +kernel
def Y1 (n:Int):ByteArray:=if n=0 then ⟨#[48]⟩ else if n=1 then ⟨#[49]⟩ else ⟨#[63]⟩
theorem QVb (n:Int):(Y1 n).size=1:=by
 unfold Y1;by_cases h:n=0
 ·rw [if_pos h];rfl
 ·rw [if_neg h];by_cases h':n=1
  ·rw [if_pos h'];rfl
  ·rw [if_neg h'];rfl
def Jn (l:List Int):ByteArray:=if Zx (l.map Y1)=ByteArray.mk #[] then ⟨#[45]⟩ else Zx (l.map Y1)
noncomputable def Zs (t:Nl):ByteArray:=if t.Nc.length=0/\t.Nm=0 then ⟨#[45]⟩ else Ya t.Nm++⟨#[58]⟩++Ze ⟨#[44]⟩ (t.Nc.map Ya)
noncomputable def X7 (x:Nd):ByteArray:=Ze ⟨#[32]⟩ ([Jn x.Nb,Ya x.Nh]++x.Na.map Zs)
structure Told (x:Nd):Prop where
 sw:x.Nb.length<=1000
 tr:x.Na.length<=20
 ct:DecOk x.Nh
 ch:∀ t∈x.Na,t.Nc.length<=20/\DecOk t.Nm/\∀ s∈t.Nc,DecOk s
theorem Qwt {l:List Int} (h:∀ s∈l,DecOk s):(Ze ⟨#[44]⟩ (l.map Ya)).size<=l.length * 21:=by
 have:=Qyv (sep:=⟨#[44]⟩) (m:=20) (Nat.le_refl _) (l:=l.map Ya) fun s hs=>by
  obtain ⟨n,hn,rfl⟩:=Er.1 hs;exact (h n hn).s
 simpa using this
theorem QWd {x:Nd} (h:Told x) {t:Nl} (ht:t∈x.Na):(Zs t).size<=500:=by
 obtain ⟨h1,h2,h3⟩:=h.ch t ht;unfold Zs;split
 ·decide
 ·rw [Ee,Ee];have:=Qwt h3;have:=h2.s;have e:(ByteArray.mk #[58]).size=1:=rfl;omega
theorem Qwq (l:List Int):(Zx (l.map Y1)).size<=l.length:=by
 have:=QGp (m:=1) (l:=l.map Y1) fun s hs=>by
  obtain ⟨n,_,rfl⟩:=Er.1 hs;rw [QVb];exact Nat.le_refl _
 simpa using this
theorem QUy {l:List Int} (h:l.length<=1000):(Jn l).size<=1000:=by
 unfold Jn;split
 ·decide
 ·have:=Qwq l;omega
theorem Qxx {x:Nd} (h:Told x):Qeh x=some (X7 x):=by
  refine Runs.eq ?_;unfold Qeh;refine Eh (R:=fun s=>s=bl (Zx (x.Nb.map Y1))) (Et (fun s=>∃ k:Nat,s=((k:Int),bl (Zx ((x.Nb.take k).map Y1)))/\k<=x.Nb.length) (fun s=>x.Nb.length - s.1.toNat) ⟨0,rfl,Nat.zero_le _⟩ ?_) ?_
  · rintro _ ⟨k,rfl,hk⟩;have hsw:=h.sw;unfold Qzd;by_cases hlt:k < x.Nb.length
    · have hz:(Zx ((x.Nb.take k).map Y1)).size<=1000:=Nat.le_trans (Qwq (x.Nb.take k)) (by rw [List.length_take];omega);have hc:∀ c:ByteArray,Y1 x.Nb[k]=c->c.size=1->Runs (Option.bind (app (bl (Zx ((x.Nb.take k).map Y1))) (bl c)) fun q=>some (Sum.inl (w64 ((k:Int)+1),q))) (Rnd (fun s=>∃ k:Nat,s=((k:Int),bl (Zx ((x.Nb.take k).map Y1)))/\k<=x.Nb.length) (fun s=>x.Nb.length - s.1.toNat) (fun s=>s=bl (Zx (x.Nb.map Y1))) ((k:Int),bl (Zx ((x.Nb.take k).map Y1)))):=fun c hc hc2=>by
        refine Ea (Zm (by rw [ZV,ZV];omega)) (Ec ⟨⟨k+1,?_,by omega⟩,?_⟩)
        · rw [Xj k (by omega),<-Qex x.Nb Y1 k hlt,QGq,hc,Qlf]
        · show x.Nb.length - (w64 ((k:Int)+1)).toNat < x.Nb.length - ((k:Nat):Int).toNat;rw [Xj k (by omega)];simp;omega
      refine Ef (XA hlt) (Ea (Xh hlt) (Runs.bif (fun h1=>?_) (fun h1=>Runs.bif (fun h2=>?_) (fun h2=>?_))))
      · have e:=of_decide_eq_true h1;refine Ef h1 ?_;rw [e];exact Ea QLa (hc _ (by unfold Y1;rw [if_pos e]) rfl)
      · have e:=of_decide_eq_true h2;rw [e];exact Ea QLb (hc _ (by unfold Y1;rw [if_neg (of_decide_eq_false h1),if_pos e]) rfl)
      · exact hc _ (by unfold Y1;rw [if_neg (of_decide_eq_false h1),if_neg (of_decide_eq_false h2)]) rfl
    · have:k=x.Nb.length:=by omega
      subst this;refine Eg (XE _) (Ec ?_);show bl (Zx ((x.Nb.take x.Nb.length).map Y1))=_;rw [Ej]
  rintro _ rfl;refine Eh (R:=fun l=>l=[Zx (x.Nb.map Y1),Ya x.Nh]) (Ea h.ct.i (Ec (by rw [Qnn]))) ?_;rintro _ rfl;refine Ea (b:=Zx (x.Nb.map Y1)) rfl (Eh (R:=fun l=>l=[Jn x.Nb,Ya x.Nh]) ?_ ?_)
  · unfold Jn;by_cases e:Zx (x.Nb.map Y1)=ByteArray.mk #[]
    · rw [if_pos e];exact Ef (decide_eq_true e) (Ea (b:=Zx (x.Nb.map Y1)) rfl (Ec rfl))
    · rw [if_neg e];exact Eg (decide_eq_false e) (Ec rfl)
  rintro _ rfl;have htr:=h.tr;have hs1:=QUy h.sw;have hs2:=h.ct.s;refine Eh (R:=fun l=>l=[Jn x.Nb,Ya x.Nh]++x.Na.map Zs) (Et (fun s=>∃ k:Nat,s=([Jn x.Nb,Ya x.Nh]++(x.Na.take k).map Zs,(k:Int))/\k<=x.Na.length) (fun s=>x.Na.length - s.2.toNat) ⟨0,rfl,Nat.zero_le _⟩ ?_) ?_
  · rintro _ ⟨k,rfl,hk⟩;unfold Qzf;by_cases hlt:k < x.Na.length
    · have hT:=Eb hlt;obtain ⟨c1,c2,c3⟩:=h.ch _ hT;have c2s:=c2.s;have hm:x.Na.length - (w64 ((k:Int)+1)).toNat < x.Na.length - ((k:Nat):Int).toNat:=by rw [Xj k (by omega)];simp;omega
      have hnext:∀ c,c=Zs x.Na[k]->([Jn x.Nb,Ya x.Nh]++(x.Na.take k).map Zs)++[c]=[Jn x.Nb,Ya x.Nh]++(x.Na.take (k+1)).map Zs:=fun c hc=>by
        rw [hc,List.append_assoc,Qex x.Na Zs k hlt]
      refine Ef (XA hlt) (Ea (Xh hlt) ?_);by_cases he:x.Na[k].Nc.length=0/\x.Na[k].Nm=0
      · refine Ef (by simp [he]) (Ea (Zm (by simp;omega)) (Ec ⟨⟨k+1,?_,by omega⟩,hm⟩));rw [Xj k (by omega),hnext _ (by unfold Zs;rw [if_pos he])]
      · refine Eg ?_ ?_
        · rw [Eu,decide_eq_false_iff_not,decide_eq_false_iff_not];omega
        refine Eh (R:=fun l=>l=x.Na[k].Nc.map Ya) (Et (fun s=>∃ j:Nat,s=((x.Na[k].Nc.take j).map Ya,(j:Int))/\j<=x.Na[k].Nc.length) (fun s=>x.Na[k].Nc.length - s.2.toNat) ⟨0,rfl,Nat.zero_le _⟩ ?_) ?_
        · rintro _ ⟨j,rfl,hj⟩;unfold Qze;by_cases hjl:j < x.Na[k].Nc.length
          · have hd:=c3 _ (Eb hjl);refine Ef (XA hjl) (Ea (Xh hjl) (Ea hd.i (Ea (Zm (by simp;omega)) (Ec ⟨⟨j+1,by rw [Xj j (by omega),Qex x.Na[k].Nc Ya j hjl],by omega⟩,?_⟩))));show x.Na[k].Nc.length - (w64 ((j:Int)+1)).toNat < x.Na[k].Nc.length - ((j:Nat):Int).toNat;rw [Xj j (by omega)];simp;omega
          · have:j=x.Na[k].Nc.length:=by omega
            subst this;refine Eg (XE _) (Ec ?_);show (x.Na[k].Nc.take x.Na[k].Nc.length).map Ya=_;rw [Ej]
        rintro _ rfl;have hcs:=Qwt c3;have hjo:Qhb (x.Na[k].Nc.map Ya) (ByteArray.mk #[44])=some (Ze ⟨#[44]⟩ (x.Na[k].Nc.map Ya)):=Qyx rfl (by simp;omega) fun s hs=>by
          obtain ⟨n,hn,rfl⟩:=Er.1 hs;have:=(c3 n hn).s;omega
        have e2:(ByteArray.mk #[58]).size=1:=rfl;refine Ea c2.i (Ea (Qwp (by omega)) (Ea hjo (Ea (Qwp (by rw [Ee];omega)) (Ea (Zm (by simp;omega)) (Ec ⟨⟨k+1,?_,by omega⟩,hm⟩)))));rw [Xj k (by omega),hnext _ (by unfold Zs;rw [if_neg he])]
    · have:k=x.Na.length:=by omega
      subst this;refine Eg (XE _) (Ec ?_);show [Jn x.Nb,Ya x.Nh]++(x.Na.take x.Na.length).map Zs=_;rw [Ej]
  rintro _ rfl;refine Ea (Qyx rfl (by simp;omega) fun s hs=>?_) (Ec rfl);rcases List.mem_append.1 hs with hs | hs
  · simp at hs;rcases hs with rfl | rfl<;>omega
  · obtain ⟨t,ht,rfl⟩:=Er.1 hs;have:=QWd h ht;omega
end Go.Gw

end
