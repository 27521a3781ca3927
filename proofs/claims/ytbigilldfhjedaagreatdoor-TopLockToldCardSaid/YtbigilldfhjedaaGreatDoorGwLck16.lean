/- Laws of the walk. Condition: each theorem says its own. -/
import Derived.Test.YtbigilldfhjedaaGreatDoorGwAwakeLock
import Derived.Test.YtbigilldfhjedaaGreatDoorGwLib21
import Derived.Lib.Bytealg
import Derived.Test.YtbigilldfhjedaaGreatDoorGwOpen
set_option linter.unusedVariables false
set_option linter.unusedSimpArgs false
set_option linter.unusedSectionVars false
open Go.Gw.Runs renaming call→Ea,some→Ec,bif_f→Ee,bif_t→Ef,eq→En,callR→Eu
open ByteArray renaming size_append→Eb
open List renaming getElem_mem→Ed,append_assoc→Eh,length_map→Ei,take_length→Ej,mem_cons_self→Ek,mem_cons_of_mem→El,mem_map→Eo,take_append_getElem→Ep,length_eq_zero_iff→Eq_,map_cons→Es,take_of_length_le→Ew,mem_cons→Ex,mem_of_mem_take→Ey,count_cons_self→Ez,foldl_cons→EA,mem_append→EB,count_eq_zero→EC,getElem_zip→EE,length_cons→EF,getElem_map→EG,map_append→EJ,length_set→EK,count_cons_of_ne→EN
open Bool renaming not_true→Eg,not_false→Er,and_eq_true→ED,eq_iff_iff→EH,or_eq_true→EI,and_eq_false_iff→EM
open Int renaming toNat_natCast→Em
open Nat renaming le_refl→Et,zero_le→EL,mul_le_mul_right→EO
open Option renaming bind→Ev
section
set_option maxRecDepth 4096
namespace Go.Gw
open Go
attribute [local irreducible] loop
theorem Qyt (l:List Int) (v:Int) (hl:l.length < 1000000):Qhf l v=some (decide (v∈l)):=by
 unfold Qhf;rw [Zo l (fun x=>decide (x=v)) (fun _ _=>true),Qr]
 ·rcases J3 (p:=fun x=>decide (x=v)) (res:=fun _ _=>true) l 0 with ⟨k1,k2⟩ | ⟨j,x,k1,k2,k3⟩
  ·rw [k1,<-Qww,k2];rfl
  ·rw [k1,<-Qww,k3];rfl
 ·intro k hk;unfold Qqb;rw [XN hk,Xq hk,Xz k (by omega)];rfl
 ·unfold Qqb;rw [XP];rfl
theorem QSl (l:List ByteArray) (s:ByteArray) (hl:l.length < 1000000):Qnu l s=some (Qbi (fun x=>decide (x=s)) l):=by
 unfold Qnu Qbi;rw [Zo l (fun x=>decide (x=s)) (fun k _=>(k:Int)),Qr,Qgi]
 ·intro k hk;unfold Qtv;rw [XN hk,Xq hk,Xz k (by omega)];rfl
 ·unfold Qtv;rw [XP];rfl
theorem QAj (l:List ByteArray) (s:ByteArray):(l.any fun x=>decide (x=s))=Zf l s:=by
 unfold Zf;congr 1;funext x;exact decide_eq_decide.2 eq_comm
theorem QAk {α:Type} (f:α->ByteArray) (l:List α) (s:ByteArray):(l.any fun x=>decide (f x=s))=Zf (l.map f) s:=by
 rw [<-QAj,List.any_map];rfl
theorem QCc (l:List ByteArray) (hl:l.length < 1000):Qjb l=some (match XE (Zg l) l.length with | some i=>((i:Int),Zg l i) | none=>(0,0)):=by
 unfold Qjb;have key:loop (Qja l) 0=_:=Qbk (step:=Qja l) (fun k=>(k:Int)) l.length (Zg l) (fun i e=>((i:Int),e)) () (fun k hk _=>by
  have hs:Zg l k=ZH l[k] (l.take k):=Jt _ _ _ hk;rw [hs];unfold Qja ZH;rw [XN hk,cond_true,Xq hk,Qr,Qpz,Qr];cases Qaq l[k]
  ·rfl
  ·simp only [Eg,cond_false,Qr,cond_true];rw [Qdw (by omega),Qr,QSl _ _ (by simp;omega),Qr,Qrp,QAj,Xz k (by omega)];cases Zf (l.take k) l[k]<;>rfl) (fun _=>by
  unfold Qja;rw [XP];rfl)
 rw [key,Qr];cases XE (Zg l) l.length<;>rfl
theorem Qux {α ρ:Type} {step:Int->Option (Int⊕(ρ⊕Unit))} (xs:List α) (n:Nat) (hn:n<=xs.length) (p:α->Bool) (c:ρ)
  (hs:∀ k (hk:k < xs.length),k < n->step (k:Int)=(bif p xs[k] then some (.inr (.inl c)) else some (.inl ((k+1:Nat):Int))))
  (he:step (n:Int)=some (.inr (.inr ()))):loop step 0=some (if (xs.take n).any p=true then .inl c else .inr ()):=by
 have hlen:(xs.take n).length=n:=by simp;omega
 rw [Zo (xs.take n) p (fun _ _=>c) (fun k hk=>by
  rw [hlen] at hk;rw [hs k (by omega) hk];simp only [List.getElem_take]) (by rw [hlen];exact he)]
 rcases J3 (p:=p) (res:=fun _ _=>c) (xs.take n) 0 with ⟨k1,k2⟩ | ⟨j,x,k1,k2,k3⟩
 ·rw [k1,k2];rfl
 ·rw [k1,k3];rfl
theorem QTs {p:Nf} (h:PlantS p) (k:Nat) (hk:k < p.Na.length):Qob p k=some (ZM p k):=by
 have h1:=h.sw;have h2:=h.se;have hs:ZM p k=swE p k p.Na[k]:=Jt _ _ _ hk;have l0:loop (Qnz p.Na[k] (k:Int) p) 0=some (if (p.Na.take k).any (fun o=>decide (o.Name=p.Na[k].Name))=true then .inl 5 else .inr ()) :=
  Qux p.Na k (by omega) _ _ (fun j hj hjk=>by
   unfold Qnz;rw [XN hjk,cond_true,Xq hj,Qr,Xz j (by omega)]) (by
   unfold Qnz;rw [XP];rfl)
 have l1:loop (Qoa p.Na[k] (k:Int) p) 0=some (if (p.Na.take k).any (fun o=>decide (o.Nq=p.Na[k].Nq))=true then .inl 26 else .inr ()) :=
  Qux p.Na k (by omega) _ _ (fun j hj hjk=>by
   unfold Qoa;rw [XN hjk,cond_true,Xq hj,Qr,Xz j (by omega)]) (by
   unfold Qoa;rw [XP];rfl)
 rw [hs];unfold Qob swE swX ZH;rw [Xq hk,Qr,Qpz,Qr,l0,l1,QAk (fun o:Ns=>o.Name),show Qcw p.Na[k].Nq 0 (w64 ((p.Nc.length:Int) - 1))=some (YB p p.Na[k].Nq) by rw [Qqk,Yh (by omega)];rfl];cases Qaq p.Na[k].Name
 ·rfl
 ·cases Zf ((p.Na.take k).map (·.Name)) p.Na[k].Name
  ·cases YB p p.Na[k].Nq
   ·rfl
   ·cases (p.Na.take k).any (fun o=>decide (o.Nq=p.Na[k].Nq))<;>rfl
  ·rfl
theorem QTh (n:Int):Qcw n 0 1=some (YS n):=by
 rw [Qqk];congr 1;unfold YS;rw [EH];simp only [ED,EI,decide_eq_true_eq];omega
theorem QTr {p:Nf} (h:PlantS p) (k:Nat) (hk:k < p.Nk.length):Qny p k=some (ZJ p k):=by
 have h1:=h.ro;have h2:=h.se;have h3:=h.sw;obtain ⟨_,hr,hn⟩:=h.rn _ (Ed hk);have hs:ZJ p k=rtE p k p.Nk[k]:=Jt _ _ _ hk;have l0:loop (Qnv p.Nk[k] p (k:Int)) 0=some (if (p.Nk.take k).any (fun o=>decide (o.Name=p.Nk[k].Name))=true then .inl 5 else .inr ()) :=
  Qux p.Nk k (by omega) _ _ (fun j hj hjk=>by
   unfold Qnv;rw [XN hjk,cond_true,Xq hj,Qr,Xz j (by omega)]) (by
   unfold Qnv;rw [XP];rfl)
 rw [hs];unfold Qny rtE;rw [Xq hk,Qr,Qpz,Qr,l0,QAk (fun o:Nr=>o.Name)];generalize p.Nk[k]=r at hr hn ⊢;have l1:loop (Qnw r p) 0=some (match XE (JL p r) r.Nc.length with | some i=>.inl (JL p r i) | none=>.inr ()) :=
  Qbk (fun k=>(k:Int)) r.Nc.length (JL p r) (fun _ e=>e) () (fun k hk _=>by
   have hs:JL p r k=rsE p r k r.Nc[k]:=Jt _ _ _ hk;rw [hs];unfold Qnw rsE;rw [XN hk,cond_true,Xq hk,Qr,show Qcw r.Nc[k] 0 (w64 ((p.Nc.length:Int) - 1))=some (YB p r.Nc[k]) by rw [Qqk,Yh (by omega)];rfl,Qr,Qdw (by omega),Qr,Qr,Qyt _ _ (by simp;omega),Qr,Xz k (by omega)];cases YB p r.Nc[k]<;>cases decide (r.Nc[k]∈r.Nc.take k)<;>rfl) (fun _=>by
   unfold Qnw;rw [XP];rfl)
 have l2:r.Nu.length=p.Na.length->loop (Qnx r p) 0=some (Yg (Qar r) (fun _ _=>(2:Int)) 0 (r.Nu.zip p.Na)):=fun he =>
  Zo (r.Nu.zip p.Na) _ _ (fun k hk=>by
   rw [Qpl he] at hk;unfold Qnx;rw [XN hk,cond_true,Xq (show k < p.Na.length by omega),Qr,Qyt _ _ (by omega),Qr,Xq hk,Xz k (by omega)];simp only [EE,Qar,Qr,QTh];cases decide (p.Na[k].Nq∈r.Nc)<;>rfl) (by
   rw [Qpl he];unfold Qnx;rw [XP];rfl)
 unfold ZH;cases Qaq r.Name
 ·rfl
 ·cases Zf ((p.Nk.take k).map (·.Name)) r.Name
  ·simp only [Eg,cond_false,cond_true,Qr,Xv,if_true,Bool.false_eq_true,if_false];unfold rtX;by_cases h4:r.Nc.length < 2
   ·rw [if_pos h4,decide_eq_true (show (r.Nc.length:Int) < 2 by omega)];rfl
   rw [if_neg h4,decide_eq_false (show ¬ (r.Nc.length:Int) < 2 by omega)];by_cases h5:p.Nc.length < r.Nc.length
   ·rw [if_pos h5,decide_eq_true (show (p.Nc.length:Int) < r.Nc.length by omega)];rfl
   rw [if_neg h5,decide_eq_false (show ¬ (p.Nc.length:Int) < r.Nc.length by omega),l1];simp only [cond_false,Qr];cases XE (JL p r) r.Nc.length with
   | some i=>rfl
   | none =>
    simp only [Xv];by_cases h6:r.Nu.length=p.Na.length
    ·rw [if_pos h6,decide_eq_true (show (r.Nu.length:Int)=p.Na.length by omega),Eg,cond_false,l2 h6,Qr];rcases J3 (p:=Qar r) (res:=fun _ _=>(2:Int)) (r.Nu.zip p.Na) 0 with ⟨k1,k2⟩ | ⟨j,x,k1,k2,k3⟩
     ·rw [k1,k2];rfl
     ·rw [k1,k3];rfl
    ·rw [if_neg h6,decide_eq_false (show ¬ (r.Nu.length:Int)=p.Na.length by omega)];rfl
  ·rfl
theorem QTp {p:Nf} (h:PlantS p):Qno p=some (Y0 p):=by
  have h3:=h.sw;have h4:=h.ro;have l0:loop (Qnm p) 0=some (match XE (ZM p) p.Na.length with | some i=>.inl (Np.mk 3 i,ZM p i) | none=>.inr ()) :=
    Qbk (fun k=>(k:Int)) p.Na.length (ZM p) (fun i e=>(Np.mk 3 i,e)) () (fun k hk _=>by
      unfold Qnm;rw [XN hk,cond_true,QTs h k hk,Qr,Xz k (by omega)];by_cases h1:ZM p k=0
      · rw [if_pos h1,decide_eq_true h1];rfl
      · rw [if_neg h1,decide_eq_false h1];rfl) (fun _=>by
      unfold Qnm;rw [XP];rfl)
  have l1:loop (Qnn p) 0=some (match XE (ZJ p) p.Nk.length with | some i=>.inl (Np.mk 4 i,ZJ p i) | none=>.inr ()) :=
    Qbk (fun k=>(k:Int)) p.Nk.length (ZJ p) (fun i e=>(Np.mk 4 i,e)) () (fun k hk _=>by
      unfold Qnn;rw [XN hk,cond_true,QTr h k hk,Qr,Xz k (by omega)];by_cases h1:ZJ p k=0
      · rw [if_pos h1,decide_eq_true h1];rfl
      · rw [if_neg h1,decide_eq_false h1];rfl) (fun _=>by
      unfold Qnn;rw [XP];rfl)
  unfold Qno Y0;by_cases h1:p.Nc.length=0\/p.Nb.length=0
  · rw [if_pos h1, show (decide ((p.Nc.length : Int) = 0) || decide ((p.Nb.length : Int) = 0)) = true by
      simp only [EI,decide_eq_true_eq];omega]
    rfl
  rw [if_neg h1,decide_eq_false (show ¬ (p.Nc.length:Int)=0 by omega),decide_eq_false (show ¬ (p.Nb.length:Int)=0 by omega)];simp only [Bool.or_self,cond_false];by_cases h2:8 < p.Nc.length\/3 < p.Nb.length\/4 < p.Na.length\/10 < p.Nk.length
  · rw [if_pos h2, show (((decide (8 < (p.Nc.length : Int)) || decide (3 < (p.Nb.length : Int))) || decide (4 < (p.Na.length : Int))) || decide (10 < (p.Nk.length : Int))) = true by
      simp only [EI,decide_eq_true_eq];omega]
    rfl
  rw [if_neg h2, show (((decide (8 < (p.Nc.length : Int)) || decide (3 < (p.Nb.length : Int))) || decide (4 < (p.Na.length : Int))) || decide (10 < (p.Nk.length : Int))) = false by
      rw [decide_eq_false (by omega),decide_eq_false (by omega),decide_eq_false (by omega),decide_eq_false (by omega)];rfl]
  rw [cond_false,QCc _ h.se,QCc _ h.tr,l0,l1];have hz:∀ {f:Nat->Int} {n i:Nat},XE f n=some i->f i≠0:=fun hf=>(Qbg hf).2.1
  cases h3:XE (Zg p.Nc) p.Nc.length with
  | some i=>simp [hz h3]
  | none =>
    simp only [Qr,decide_true,Eg,cond_false];cases h4:XE (Zg p.Nb) p.Nb.length with
    | some i=>simp [hz h4]
    | none =>
      simp only [decide_true,Eg,cond_false];cases h5:XE (ZM p) p.Na.length with
      | some i=>rfl
      | none =>
        simp only [Xv];cases h6:XE (ZJ p) p.Nk.length with
        | some i=>rfl
        | none=>rfl
theorem QTq {p:Nf} (h:PlantS p):Qns p=some (Y0 p).2:=by
 unfold Qns;rw [QTp h];rfl
/-! ### Copies -/
theorem Qkv (l:List Int) (h:l.length < 1000000):Qcv l=some l:=by
 unfold Qcv;rw [Zt (by simp;omega)];rfl
theorem Qxv (l:List ByteArray) (h:l.length < 1000000):Qhe l=some l:=by
 unfold Qhe;rw [Zt (by simp;omega)];rfl
theorem Qvh {α:Type} (l:List α) (k:Nat) (hk:k < l.length):l.take k++[l[k]]=l.take (k+1):=by
 have:=Qgm l id k hk;simp
theorem Qqq {p:Nf} (h:PlantS p):Qgb p=some p:=by
 have h1:=h.se;have h2:=h.tr;have h3:=h.sw;have h4:=h.ro;have hl:=Qap (step:=Qix p) (o:=p.Nk) (fun k=>((k:Int),p.Nk.take k)) p.Nk.length (fun k hk=>by
  obtain ⟨_,hr,hn⟩:=h.rn _ (Ed hk);unfold Qix;simp only [XN hk,cond_true,Xq hk,Qr];rw [Qkv _ (by omega),Qr,Qkv _ (by omega),Qr,Zt (by simp;omega),Qr,Xz k (by omega),Qvh _ _ hk]) (by
  unfold Qix;simp only [XP,Ej];rfl)
 have hl2:loop (Qix p) (0,([]:List Nr))=some p.Nk:=hl;unfold Qgb;rw [Qxv _ (by omega),Qr,Qxv _ (by omega),Qr,Zt (by simp;omega),Qr,Qr];simp only [List.nil_append];rw [hl2];rfl
theorem Qxu {x:Ng} (h:StateS x):Qiz x=some x:=by
 have h1:=h.sw;have h2:=h.tr;have hl:=Qap (step:=Qiy x) (o:=x.Nb) (fun k=>((k:Int),x.Nb.take k)) x.Nb.length (fun k hk=>by
  unfold Qiy;simp only [XN hk,cond_true,Xq hk,Qr];rw [Qkv _ (by have:=h.ch _ (Ed hk);omega),Qr,Zt (by simp;omega),Qr,Xz k (by omega)];show some (Sum.inl (_,x.Nb.take k++[x.Nb[k]]))=_;rw [Qvh _ _ hk]) (by
  unfold Qiy;simp only [XP,Ej];rfl)
 have hl2:loop (Qiy x) (0,([]:List Nl))=some x.Nb:=hl;unfold Qiz;rw [Qkv _ (by omega),Qr,Qr];simp only;rw [hl2];rfl
theorem QHu (l:List Nj) (h:l.length < 1000000):Qnp l=some l:=by
 unfold Qnp;rw [Zt (by simp;omega)];rfl
/-! ### Equal ones -/
theorem Qzh (a b:List Int) (ha:a.length < 1000000):Qhg a b=some (decide (a=b)):=by
 unfold Qhg;by_cases hl:a.length=b.length
 ·rw [decide_eq_true (by omega),Eg,cond_false,Zo (a.zip b) (fun x=>!decide (x.1=x.2)) (fun _ _=>false),Qr,Qra a b hl]
  ·intro k hk;rw [Qpk hl] at hk;unfold Qqc;rw [XN hk,cond_true,Xq hk,Qr,Xq (show k < b.length by omega),Qr,Xz k (by omega)];simp only [EE]
  ·rw [Qpk hl];unfold Qqc;rw [XP];rfl
 ·rw [decide_eq_false (by omega)];simp only [Er,cond_true];rw [decide_eq_false];intro e;exact hl (by rw [e])
theorem QCy {x:Ng} (h:StateS x) (y:Ng):Qeg x y=some (decide (x=y)):=by
  have h1:=h.sw;have h2:=h.tr;cases x with
  | mk sw tr c =>
  cases y with
  | mk sw2 tr2 c2 =>
  simp only at h1 h2;unfold Qeg;simp only [Qzh sw sw2 (by omega),Qr,Ng.mk.injEq];by_cases e1:sw=sw2
  · by_cases e2:c=c2
    · by_cases hl:tr.length=tr2.length
      · rw [decide_eq_true e1,decide_eq_true e2,decide_eq_true (show (tr.length:Int)=tr2.length by omega)];simp only [Eg,Bool.or_self,cond_false];have key:loop (Qnt ⟨sw,tr,c⟩ ⟨sw2,tr2,c2⟩) 0=_:=Zo (tr.zip tr2) (fun x=>!decide (x.1=x.2)) (fun _ _=>false) (fun k hk=>by
          rw [Qpk hl] at hk;unfold Qnt;simp only [XN hk,cond_true,Xq hk,Qr,Xq (show k < tr2.length by omega)];rw [Qzh _ _ (by have:(tr[k]).Nd.length < 1000:=h.ch _ (Ed hk);omega),Qr,Xz k (by omega)];simp only [EE];cases h3:tr[k] with
          | mk ch un =>
          cases h4:tr2[k]'(by omega) with
          | mk ch2 un2 =>
          simp only [Nl.mk.injEq];by_cases e3:ch=ch2
          · by_cases e4:un=un2
            · simp [e3,e4]
            · simp [e3,e4]
          · simp [e3]) (by
          rw [Qpk hl];unfold Qnt;simp only [XP];rfl)
        rw [key,Qr,Qra tr tr2 hl];simp [e1,e2]
      · rw [decide_eq_false (show ¬ (tr.length:Int)=tr2.length by omega)];have:tr≠tr2:=fun e=>hl (by rw [e])
        simp [this]
    · simp [e2]
  · simp [e1]
/-! ### The limits -/
theorem QKw (p:Nf):Qhv p=some true/\PlantS p/\(p.Nc.length<=4\/8 < p.Nc.length)\/Qhv p=some false:=by
 unfold Qhv;cases hb:(((((decide (4 < (p.Nc.length:Int))&&decide ((p.Nc.length:Int)<=8))||decide (10 < (p.Nc.length:Int)))||decide (5 < (p.Nb.length:Int)))||decide (6 < (p.Na.length:Int)))||decide (12 < (p.Nk.length:Int))) with
 | true=>exact .inr rfl
 | false =>
  rw [cond_false];simp only [Bool.or_eq_false_iff,EM,decide_eq_false_iff_not] at hb;have h1:p.Nc.length < 1000:=by omega
  have h2:p.Nb.length < 1000:=by omega
  have h3:p.Na.length < 1000:=by omega
  have h4:p.Nk.length < 1000:=by omega
  have l0:loop (Qlm p) 0=some (Yg (fun s:ByteArray=>decide (20 < (s.size:Int))) (fun _ _=>false) 0 p.Nc):=Zo p.Nc _ _ (fun k hk=>by
   unfold Qlm;rw [XN hk,cond_true,Xq hk,Qr,Xz k (by omega)]) (by unfold Qlm;rw [XP];rfl)
  have l1:loop (Qln p) 0=some (Yg (fun s:ByteArray=>decide (20 < (s.size:Int))) (fun _ _=>false) 0 p.Nb):=Zo p.Nb _ _ (fun k hk=>by
   unfold Qln;rw [XN hk,cond_true,Xq hk,Qr,Xz k (by omega)]) (by unfold Qln;rw [XP];rfl)
  have l2:loop (Qlo p) 0=some (Yg (fun s:Ns=>decide (20 < (s.Name.size:Int))) (fun _ _=>false) 0 p.Na):=Zo p.Na _ _ (fun k hk=>by
   unfold Qlo;rw [XN hk,cond_true,Xq hk,Qr,Xz k (by omega)]) (by unfold Qlo;rw [XP];rfl)
  have l3:loop (Qlp p) 0=some (Yg (fun r:Nr=>decide (20 < (r.Name.size:Int))||(decide (10 < (r.Nc.length:Int))||decide (6 < (r.Nu.length:Int)))) (fun _ _=>false) 0 p.Nk):=Zo p.Nk _ _ (fun k hk=>by
   unfold Qlp;simp only [XN hk,cond_true,Xq hk,Qr,Xz k (show k < 4611686018427387904 by omega)];cases decide (20 < (p.Nk[k].Name.size:Int))<;>cases decide (10 < (p.Nk[k].Nc.length:Int))<;>cases decide (6 < (p.Nk[k].Nu.length:Int))<;>rfl) (by unfold Qlp;rw [XP];rfl)
  rw [l0,l1,l2,l3];simp only [Qr];rcases J3 (p:=fun s:ByteArray=>decide (20 < (s.size:Int))) (res:=fun _ _=>false) p.Nc 0 with ⟨k1,k2⟩ | ⟨j,x,k1,k2,k3⟩
  ·rw [k1];rcases J3 (p:=fun s:ByteArray=>decide (20 < (s.size:Int))) (res:=fun _ _=>false) p.Nb 0 with ⟨m1,m2⟩ | ⟨j,x,m1,m2,m3⟩
   ·rw [m1];rcases J3 (p:=fun s:Ns=>decide (20 < (s.Name.size:Int))) (res:=fun _ _=>false) p.Na 0 with ⟨n1,n2⟩ | ⟨j,x,n1,n2,n3⟩
    ·rw [n1];rcases J3 (p:=fun r:Nr=>decide (20 < (r.Name.size:Int))||(decide (10 < (r.Nc.length:Int))||decide (6 < (r.Nu.length:Int)))) (res:=fun _ _=>false) p.Nk 0 with ⟨o1,o2⟩ | ⟨j,x,o1,o2,o3⟩
     ·rw [o1];rw [List.any_eq_false] at k2 m2 n2 o2;refine .inl ⟨rfl,⟨h1,h2,h3,h4,fun s hs=>?_,fun s hs=>?_,fun s hs=>?_,fun r hr=>?_⟩,by omega⟩
      ·have:=k2 s hs;simp at this;omega
      ·have:=m2 s hs;simp at this;omega
      ·have:=n2 s hs;simp at this;omega
      ·have:=o2 r hr;simp at this;omega
     ·rw [o1];exact .inr rfl
    ·rw [n1];exact .inr rfl
   ·rw [m1];exact .inr rfl
  ·rw [k1];exact .inr rfl
end Go.Gw

end
section
set_option maxRecDepth 4096
namespace Go.Gw
open Go
attribute [local irreducible] loop
/-! ### Which section leads to which -/
/-! ### Which states are right -/
end Go.Gw

end
section
set_option maxRecDepth 4096
namespace Go.Gw
open Go
attribute [local irreducible] loop
theorem Qyw {α:Type} {xs:List α} (h:0 < xs.length):idx xs 0=some xs[0]:=Xq (k:=0) h
end Go.Gw

end
section
set_option maxRecDepth 4096
namespace Go.Gw
open Go
attribute [local irreducible] loop
theorem QDj {α:Type} {p:α->Bool}:∀ (l:List α) (m:Nat),(Yg p (fun k _=>(k:Int)) m l=.inr ()/\l.any p=false)\/∃ j,∃ h:j < l.length,Yg p (fun k _=>(k:Int)) m l=.inl ((m+j:Nat):Int)/\p l[j]=true
 | [],m=>.inl ⟨rfl,rfl⟩
 | x::l,m=>by
  by_cases hp:p x=true
  ·exact .inr ⟨0,by simp,by simp [Yg,hp],by simpa using hp⟩
  ·rcases QDj (p:=p) l (m+1) with ⟨h1,h2⟩ | ⟨j,hj,h1,h2⟩
   ·exact .inl ⟨by simp [Yg,hp,h1],by simp [hp,h2]⟩
   ·exact .inr ⟨j+1,by simpa using hj,by simp only [Yg,hp];rw [h1];simp;omega,by simpa using h2⟩
theorem QMj {α:Type} (p:α->Bool) (l:List α):(Qbi p l=-1/\l.any p=false)\/∃ j,∃ h:j < l.length,Qbi p l=(j:Int)/\p l[j]=true:=by
 unfold Qbi;rcases QDj (p:=p) l 0 with ⟨h1,h2⟩ | ⟨j,hj,h1,h2⟩
 ·exact .inl ⟨by rw [h1],h2⟩
 ·exact .inr ⟨j,hj,by rw [h1];simp,h2⟩
theorem QBj {α:Type} {l:List α} (h:l.Nodup) {i j:Nat} (hi:i < l.length) (hj:j < l.length) (e:l[i]=l[j]):i=j:=by
 unfold List.Nodup at h;rw [List.pairwise_iff_getElem] at h;rcases Nat.lt_trichotomy i j with h1 | h1 | h1
 ·exact absurd e (h i j hi hj h1)
 ·exact h1
 ·exact absurd e.symm (h j i hj hi h1)
theorem QMp {p:Nf} (hp:PlantOk p) {x:Ng} (h2:x.Na.length=p.Na.length) (a b:Int):Qmi (some ⟨p,x⟩) a b=some (Qbj p x.Na a b):=by
  have hw4:=hp.w4;have hr10:=hp.r10;have hs8:=hp.s8;unfold Qmi Qbj;rw [Qr,Zo p.Nk (fun r=>Qat r a b&&Jc p x.Na r [a,b]) (fun _ _=>true),Qr]
  · rcases J3 (p:=fun r=>Qat r a b&&Jc p x.Na r [a,b]) (res:=fun _ _=>true) p.Nk 0 with ⟨k1,k2⟩ | ⟨j,y,k1,k2,k3⟩
    · rw [k1,k2];rfl
    · rw [k1,k3];rfl
  · intro k hk;have hr:=Ed hk;unfold Qsm;simp only [XN hk,cond_true,Xq hk,Qr];generalize p.Nk[k]=r at hr ⊢;have hr2:=hp.r2 r hr;have hr8:=hp.r8 r hr;have hrd:=hp.rd r hr;rw [Qzj _ _ (by omega),Qr,Qzq (hp.rn r hr) h2 (by omega) (by simp),Xz k (by omega)];rcases QMj (fun x=>decide (a=x)) r.Nc with ⟨h3,h4⟩ | ⟨j,hj,h3,h4⟩
    · rw [h3];have h5:Qat r a b=false:=by
        cases hb:Qat r a b with
        | false=>rfl
        | true =>
          obtain ⟨j,hj,h6,_⟩:=pairB_iff.1 hb;rw [Qwv,decide_eq_false_iff_not] at h4;exact absurd (h6▸Ed _) h4
      rw [h5];rfl
    · rw [h3];have h4:a=r.Nc[j]:=by simpa using h4
      rw [decide_eq_true (show (0:Int)<=(j:Int) by omega),Xz j (by omega)];by_cases h5:j+1 < r.Nc.length
      · rw [XN h5];simp only [Bool.and_self,cond_true];rw [Xq h5,Qr];have h6:Qat r a b=decide (r.Nc[j+1]=b):=by
          rw [EH,pairB_iff,decide_eq_true_eq];constructor
          · rintro ⟨i,hi,h7,h8⟩;have:i=j:=QBj hrd (by omega) hj (h7.trans h4);subst this;exact h8
          · intro h7;exact ⟨j,h5,h4.symm,h7⟩
        rw [h6];cases decide (r.Nc[j+1]=b)<;>rfl
      · rw [decide_eq_false (show ¬ ((j+1:Nat):Int) < r.Nc.length by omega)];have h6:Qat r a b=false:=by
          cases hb:Qat r a b with
          | false=>rfl
          | true =>
            obtain ⟨i,hi,h7,_⟩:=pairB_iff.1 hb;have:i=j:=QBj hrd (by omega) hj (h7.trans h4);omega
        rw [h6];rfl
  · unfold Qsm;simp only [XP];rfl
theorem Qyl {α:Type} (g:α->Bool):∀ (l:List α) (k:Nat) (b:Bool),fld (fun (_:Nat) (a:Bool) (x:α)=>a||g x) k b l=(b||l.any g)
 | [],k,b=>by simp [fld]
 | x::l,k,b=>by
  unfold fld;rw [Qyl g l];simp [Bool.or_assoc]
theorem QGz (l:List Nl) (h:∀ t∈l,t.Nd.length < 1000) (hl:l.length < 1000) (s:Int) (b:Bool):loop (Qif s l) (b,0)=some (b||l.any fun o=>decide (s∈o.Nd)):=by
 have:=(QOs (step:=Qif s l) l (fun _ (c:Bool) o=>c||decide (s∈o.Nd)) (fun c k=>(c,(k:Int))) (fun c=>c) (fun _ _=>True) b trivial (fun k hk c _=>by
  refine ⟨?_,trivial⟩;unfold Qif;simp only [XN hk,cond_true,Xq hk,Qr,Xz k (show k < 4611686018427387904 by omega),Qfg _ _ (show l[k].Nd.length < 1000000 by have:=h _ (Ed hk);omega)];cases c<;>rfl) (fun c _=>by
  unfold Qif;simp only [XP];rfl)).1
 rw [Qyl] at this;exact this
theorem QYj (t:Nl):JH t.Nm (if (t.Nd.length:Int) < 1 then (t.Nd.length:Int) else 1) (t.Nd.length:Int)=some (Qcr t):=by
 rw [Qwa];congr 1;unfold Qcr;by_cases h0:t.Nd.length=0
 ·rw [if_pos h0,if_pos (show (t.Nd.length:Int) < 1 by omega),EH];simp only [ED,decide_eq_true_eq];omega
 ·rw [if_neg h0,if_neg (show ¬ (t.Nd.length:Int) < 1 by omega)]
theorem QMo {p:Nf} (hS:PlantS p) (hp:PlantOk p) {x:Ng} (h:StateS x) (h2:x.Na.length=p.Na.length) (n:Nat) (hn:n < x.Nb.length):Qmg (some ⟨p,x⟩) (n:Int)=some (Qay p x n):=by
  have hs:Qay p x n=tsE p x n x.Nb[n]:=Jt _ _ _ hn;have hc:=h.ch _ (Ed hn);have hl:=h.tr;rw [hs];unfold Qmg tsE;simp only [Qr,Xq hn];rw [QYj,Qr];cases Qcr x.Nb[n]
  · rfl
  simp only [Eg,cond_false,cond_true];have key:loop (Qmf x.Nb[n] (some ⟨p,x⟩) (n:Int)) 0=some (match XE (Qby p x n x.Nb[n]) x.Nb[n].Nd.length with | some i=>.inl (Qby p x n x.Nb[n] i) | none=>.inr ()) :=
    Qbk (fun k=>(k:Int)) x.Nb[n].Nd.length (Qby p x n x.Nb[n]) (fun _ e=>e) () (fun k hk _=>by
      have hs:Qby p x n x.Nb[n] k=chE p x n x.Nb[n] k x.Nb[n].Nd[k]:=Jt _ _ _ hk;rw [hs];unfold Qmf chE;simp only [XN hk,cond_true,Xq hk,Qr];rw [Qdw (by omega),Qr,Qfg _ _ (by simp;omega),Qr,Qdw (by omega),Qr,
        QGz _ (fun t ht=>h.ch t (Ey ht)) (by simp;omega),Qr,QDb hS,Qr,Yr,Qr,Xz k (by omega)]
      generalize (decide (x.Nb[n].Nd[k]∈x.Nb[n].Nd.take k)||(x.Nb.take n).any fun o=>decide (x.Nb[n].Nd[k]∈o.Nd))=bb;by_cases hk0:k=0
      · subst hk0;simp only [Int.natCast_zero,decide_true,Eg,cond_false,Qr,Bool.true_or,if_true,Yr,cond_true];rw [Zn _ (by simp),Qr,Qfl];cases YB p x.Nb[n].Nd[0]<;>cases bb<;>rfl
      · rw [decide_eq_false (show ¬ (k : Int) = 0 by omega), show w64 ((k : Int) - 1) = ((k - 1 : Nat) : Int) by rw [Yh (by omega)]; omega,
          show (if (0:Int) < ((k - 1:Nat):Int) then ((k - 1:Nat):Int) else 0)=((k - 1:Nat):Int) by split<;>omega]
        simp only [Er,cond_true,Xq (show k - 1 < x.Nb[n].Nd.length by omega),Qr,QMp hp h2,if_neg hk0,List.getElem?_eq_getElem (show k - 1 < x.Nb[n].Nd.length by omega),Option.getD_some,Bool.false_or,Yr];rw [Zn _ (by simp),Qr,Qfl];cases YB p x.Nb[n].Nd[k]<;>cases bb<;>cases Qbj p x.Na x.Nb[n].Nd[k - 1] x.Nb[n].Nd[k]<;>rfl) (fun _=>by
      unfold Qmf;simp only [XP];rfl)
  rw [key,Qr];cases XE (Qby p x n x.Nb[n]) x.Nb[n].Nd.length<;>rfl
theorem QTi (l:List Int) (hl:l.length < 1000):Qom l=some (!(l.all YS)):=by
 unfold Qom Quo;rw [Zo l (fun n=>!(YS n)) (fun k _=>(k:Int)),Qr,Qgi,Qr,Qjr]
 ·rw [List.all_eq_not_any_not,Bool.not_not]
 ·intro k hk;unfold Qun;rw [XN hk,Xq hk,Xz k (by omega)];rfl
 ·unfold Qun;rw [XP];rfl
def JZ (p:Nf) (x:Ng):Int:=if (Y0 p).2=0 then Qoq p x else (Y0 p).2
theorem QBu {p:Nf} (hS:PlantS p) {x:Ng} (h:StateS x):Qio p x=some (if JZ p x=0 then (some ⟨p,x⟩,0) else (none,JZ p x)):=by
  have h1:=h.sw;have h2:=h.tr;have h3:=hS.sw;have h4:=hS.tr;unfold Qio JZ;rw [QTi _ (by omega),Qr,Qtr hS,Qr,Yr,Qr,Bool.not_not];by_cases hp0:(Y0 p).2=0
  · have hp:=Qnk hp0;simp only [if_pos hp0,hp0];unfold Qoq;by_cases hl:x.Na.length=p.Na.length/\x.Nb.length=p.Nb.length
    · rw [if_pos hl,decide_eq_true (show (x.Na.length:Int)=p.Na.length by omega),decide_eq_true (show (x.Nb.length:Int)=p.Nb.length by omega)];have e1:∀ (f:Bool->Option (Option Nn×Int)),(Ev (bif x.Na.all YS then Qab x.Ni else some default) f)=f (bif x.Na.all YS then Xj x.Ni else default):=fun f=>by
        cases x.Na.all YS<;>rfl
      rw [e1,Yr,Qr,Zn _ (by simp),Qr,Qfl];cases ha:x.Na.all YS
      · rfl
      · cases hb:Xj x.Ni
        · rfl
        · simp only [Bool.and_self,cond_true,ne_eq,not_true_eq_false,if_false,decide_true,Eg,cond_false];have key:loop (Qmn p x) 0=some (match XE (Qay p x) x.Nb.length with | some i=>.inl (none,Qay p x i) | none=>.inr ()) :=
            Qbk (fun k=>(k:Int)) x.Nb.length (Qay p x) (fun _ e=>(none,e)) () (fun k hk _=>by
              unfold Qmn;rw [XN hk,cond_true,QMo hS hp h hl.1 k hk,Qr,Xz k (by omega)];by_cases h5:Qay p x k=0
              · rw [if_pos h5,decide_eq_true h5];rfl
              · rw [if_neg h5,decide_eq_false h5];rfl) (fun _=>by
              unfold Qmn;rw [XP];rfl)
          rw [key,Qr];cases hf:XE (Qay p x) x.Nb.length with
          | some i =>
            have h5:=(Qbg hf).2.1;simp [Xv,h5]
          | none=>rfl
    · rw [if_neg hl, show (decide ((x.Na.length : Int) = p.Na.length) && decide ((x.Nb.length : Int) = p.Nb.length)) = false by
        rw [EM,decide_eq_false_iff_not,decide_eq_false_iff_not];omega]
      have e1:∀ (f:Bool->Option (Option Nn×Int)),(Ev (bif x.Na.all YS then Qab x.Ni else some default) f)=f (bif x.Na.all YS then Xj x.Ni else default):=fun f=>by
        cases x.Na.all YS<;>rfl
      rw [e1,Yr,Qr,Zn _ (by simp),Qr,Qfl];rfl
  · simp only [if_neg hp0];have e1:∀ (f:Bool->Option (Option Nn×Int)),(Ev (bif x.Na.all YS then Qab x.Ni else some default) f)=f (bif x.Na.all YS then Xj x.Ni else default):=fun f=>by
      cases x.Na.all YS<;>rfl
    rw [e1,Yr,Qr,Zn _ (by simp),Qr,Qfl,if_pos hp0,decide_eq_false hp0];rfl
theorem QSv {p:Nf} {x:Ng} (h:JZ p x=0):PlantOk p/\StateOk p x/\(Y0 p).2=0:=by
 unfold JZ at h;by_cases hp0:(Y0 p).2=0
 ·rw [if_pos hp0] at h;exact ⟨Qnk hp0,state_iff.1 h,hp0⟩
 ·rw [if_neg hp0] at h;exact absurd h hp0
theorem QSu {p:Nf} {x:Ng} (h0:(Y0 p).2=0) (h:StateOk p x):JZ p x=0:=by
 unfold JZ;rw [if_pos h0];exact state_iff.2 h
theorem QMn {p:Nf} (hS:PlantS p):Qhx p=some (if (Y0 p).2=0 then (ZS p,0) else (Qai,(Y0 p).2)):=by
 unfold Qhx;rw [Qtr hS,Qr];by_cases h0:(Y0 p).2=0
 ·rw [if_pos h0,decide_eq_true h0,Eg,cond_false,Qxj hS];rfl
 ·rw [if_neg h0,decide_eq_false h0];rfl
def Qpy (p:Nf) (x:Ng) (e:Nj):Ng×Int:=if JZ p x=0 then (if Ze p x e=0 then (YR p x e,0) else (Qai,Ze p x e)) else (Qai,JZ p x)
theorem QMm {p:Nf} (hS:PlantS p) {x:Ng} (h:StateS x) (e:Nj):Qlr p x e=some (Qpy p x e):=by
 unfold Qlr Qpy;rw [QBu hS h,Qr];by_cases h0:JZ p x=0
 ·obtain ⟨hp,hx,_⟩:=QSv h0;simp only [if_pos h0,decide_true,cond_true];rw [Qyj hS,Qr,Qr];unfold Ze;by_cases h1:ZF p e=0
  ·obtain ⟨r,hr,h2,h3⟩:=Qxa hp hx h1;simp only [if_pos h1,decide_eq_true h1,cond_true];rw [hr,Qr,Qr,h2];by_cases h4:Qad p x e=0
   ·rw [if_pos h4,h3 h4,decide_eq_true h4];simp only [Eg,cond_false];rw [QEq p ((QDn hp hx h1 h4).s hp)];rfl
   ·rw [if_neg h4,decide_eq_false h4];rfl
  ·simp only [if_neg h1,decide_eq_false h1,cond_false,Qr,Er,cond_true];rfl
 ·simp only [if_neg h0,decide_eq_false h0,cond_false,Qr,Er,cond_true];rfl
theorem QGr (t:Nh):Nh.mk t.e0 t.e1 t.e2 t.e3 t.e4=t:=rfl
theorem QYw {a b c t:Nh} (h:JR a b c=some t):X7 t=0:=by
 unfold JR at h;by_cases h0:X7 a=0/\(a=b\/a=c)
 ·rw [if_pos h0] at h;cases h;exact h0.1
 rw [if_neg h0] at h;by_cases h1:X7 b=0/\(b=a\/b=c)
 ·rw [if_pos h1] at h;cases h;exact h1.1
 rw [if_neg h1] at h;by_cases h2:X7 c=0/\(c=a\/c=b)
 ·rw [if_pos h2] at h;cases h;exact h2.1
 rw [if_neg h2] at h;cases h
def Qtu (p:Nf) (x:Ng) (l:Nx):Ng×Int:=match JR l.e0 l.e1 l.e2 with
 | none=>(Qai,12)
 | some t=>if t.e3=x.Ni then (if Ze p x ⟨t.e0,t.e1,t.e2⟩=0 then (⟨(YR p x ⟨t.e0,t.e1,t.e2⟩).Na,(YR p x ⟨t.e0,t.e1,t.e2⟩).Nb,Int.tmod (t.e3+1) 251⟩,0) else (Qai,Ze p x ⟨t.e0,t.e1,t.e2⟩)) else (Qai,9)
theorem QXz {t:Nh} (h:X7 t=0):Xj t.e3=true:=by
 unfold X7 at h;cases hb:Xj t.e3 with
 | true=>rfl
 | false=>rw [hb] at h;simp at h
theorem QYy {n:Int} (h:Xj n=true):w64 (n+1)=n+1:=by
 unfold Xj at h;simp at h;exact Yh (by omega)
theorem QMq {p:Nf} (hS:PlantS p) {x:Ng} (h:StateS x) (l:Nx):Qhz p x l=some (if JZ p x=0 then Qtu p x l else (Qai,JZ p x)):=by
 unfold Qhz;rw [QBu hS h,Qr];by_cases h0:JZ p x=0
 ·simp only [if_pos h0,decide_true,Eg,cond_false];rw [QYv,Qr];unfold Qvy Qtu;cases hv:JR l.e0 l.e1 l.e2 with
  | none=>rfl
  | some t =>
   have ht:=QYw hv;simp only [decide_true,Eg,cond_false,QGr];rw [QJg,Qr];unfold evt;rw [if_pos ht];simp only;by_cases h1:t.e3=x.Ni
   ·rw [if_pos h1,decide_eq_true h1,Eg,cond_false,QMm hS h,Qr];unfold Qpy;rw [if_pos h0,QYy (QXz ht)];by_cases h2:Ze p x ⟨t.e0,t.e1,t.e2⟩=0
    ·simp only [if_pos h2,decide_true,Eg,cond_false]
    ·simp only [if_neg h2,decide_eq_false h2,Er,cond_true];rfl
   ·rw [if_neg h1,decide_eq_false h1];rfl
 ·simp only [if_neg h0,decide_eq_false h0,Er,cond_true];rfl
end Go.Gw

end
section
set_option maxRecDepth 4096
namespace Go.Gw
open Go
attribute [local irreducible] loop
theorem QVd {x:Ng} (h:StateS x):Qeg x x=some true:=by rw [QCy h,decide_eq_true rfl]
end Go.Gw

end
section
set_option maxRecDepth 4096
set_option linter.unusedVariables false
set_option linter.unusedSectionVars false
namespace Go.Gw
open Go
attribute [local irreducible] loop
def Xf (s:ByteArray):List Int:=s.data.toList.map fun b=>((b.toNat:Nat):Int)
theorem Qdv (s:ByteArray):(Xf s).length=s.size:=Zu s
theorem Qkq {a b:ByteArray} (h:Xf a=Xf b):a=b:=by
 have h:bl a=bl b:=h;rw [<-Qng a,<-Qng b,h]
theorem Z7 (a b:ByteArray):Xf (a++b)=Xf a++Xf b:=Qkp a b
def Zh (c:Int):List Int->List (List Int)
 | []=>[[]]
 | x::l=>if x=c then []::Zh c l else
  match Zh c l with
  | h::t=>(x::h)::t
  | []=>[[x]]
theorem Qjq {c:Int}:∀ {a:List Int},c∉a->Zh c a=[a]
 | [],_=>rfl
 | x::a,h=>by
  rw [Zh,if_neg (fun e=>h (by simp [e])),Qjq fun q=>h (El _ q)]
theorem Qdj {c:Int}:∀ {a b:List Int},c∉a->Zh c (a++c::b)=a::Zh c b
 | [],b,_=>by rw [List.nil_append,Zh,if_pos rfl]
 | x::a,b,h=>by
  rw [List.cons_append,Zh,if_neg (fun e=>h (by simp [e])),Qdj fun q=>h (El _ q)]
theorem Qxn {s:ByteArray} {k:Nat} (h:k < (Xf s).length):idx (α:=Int) (bl s) (k:Int)=some (Xf s)[k]:=Xq (xs:=Xf s) h
theorem QHa (s:ByteArray) (a b:Nat):Xf (s.extract a b)=((Xf s).take b).drop a:=by
 show List.map _ (s.extract a b).data.toList=List.drop a (List.take b (List.map _ s.data.toList));rw [<-List.map_take,<-List.map_drop];congr 1;rw [ByteArray.data_extract,Array.toList_extract];simp [List.extract,List.drop_take]
theorem Qot {s:ByteArray} {a b:Nat} (h1:a<=b) (h2:b<=s.size):∃ t,J4 s (a:Int) (b:Int)=some t/\Xf t=((Xf s).take b).drop a:=by
 refine ⟨s.extract a b,?_,QHa s a b⟩;unfold J4;rw [if_pos ⟨by omega,by omega,by omega⟩,Em,Em]
theorem Qer {x:UInt8} {c:Nat} (h:c < 256):((x.toNat:Nat):Int)=(c:Int)↔x=c.toUInt8:=by
 constructor
 ·intro e;exact UInt8.toNat.inj (by rw [show c.toUInt8.toNat=c % 256 from rfl];omega)
 ·intro e;rw [e,show c.toUInt8.toNat=c % 256 from rfl];omega
theorem QHn {s:ByteArray} {c:Nat} (h:c < 256):Qku s (c:Int)=(((Xf s).count (c:Int):Nat):Int):=by
 unfold Qku;rw [Em,Lib.foldl_data,Lib.count_foldl];unfold Lib.countByte Xf;have key:∀ l:List UInt8,(l.map fun b:UInt8=>((b.toNat:Nat):Int)).count (c:Int)=l.count c.toUInt8:=by
  intro l
  induction l with
  | nil=>rfl
  | cons x l ih =>
   rw [Es];by_cases hx:x=c.toUInt8
   ·rw [(Qer h).2 hx,Ez,ih,hx,Ez]
   ·rw [EN (fun e=>hx ((Qer h).1 e)),EN hx,ih]
 rw [key];omega
theorem Qyy (u:UInt8):∀ l:List UInt8,(u∉l/\Lib.indexByte l u=-1)\/∃ a b,l=a++u::b/\u∉a/\Lib.indexByte l u=(a.length:Int)
 | []=>.inl ⟨by simp,rfl⟩
 | x::l=>by
  by_cases hx:x=u
  ·exact .inr ⟨[],l,by rw [hx];rfl,by simp,by simp [Lib.indexByte,hx]⟩
  ·rcases Qyy u l with ⟨h1,h2⟩ | ⟨a,b,h1,h2,h3⟩
   ·refine .inl ⟨fun h=>?_,by simp [Lib.indexByte,hx,h2]⟩;rcases Ex.1 h with h | h
    ·exact hx h.symm
    ·exact h1 h
   ·refine .inr ⟨x::a,b,by rw [h1];rfl,fun h=>?_,?_⟩
    ·rcases Ex.1 h with h | h
     ·exact hx h.symm
     ·exact h2 h
    ·have hn:¬ ((a.length:Int)=-1):=by omega
     simp [Lib.indexByte,hx,h3,hn]
theorem Qrq {s:ByteArray} {c:Nat} (h:c < 256):((c:Int)∉Xf s/\ixB s (c:Int)=-1)\/∃ a b,Xf s=a++(c:Int)::b/\(c:Int)∉a/\ixB s (c:Int)=(a.length:Int):=by
 have e:ixB s (c:Int)=Lib.indexByte s.data.toList c.toUInt8:=by
  rw [<-Lib.firstIdx_eq];rfl
 have hm:∀ l:List UInt8,c.toUInt8∉l->(c:Int)∉l.map fun b:UInt8=>((b.toNat:Nat):Int):=fun l hl hq=>by
  obtain ⟨x,hx,hx2⟩:=Eo.1 hq;rw [(Qer h).1 hx2] at hx;exact hl hx
 rw [e];rcases Qyy c.toUInt8 s.data.toList with ⟨h1,h2⟩ | ⟨a,b,h1,h2,h3⟩
 ·exact .inl ⟨hm _ h1,h2⟩
 ·refine .inr ⟨a.map fun b:UInt8=>((b.toNat:Nat):Int),b.map fun b:UInt8=>((b.toNat:Nat):Int),?_,hm _ h2,by rw [h3,Ei]⟩;unfold Xf;rw [h1,EJ,Es,(Qer h).2 rfl]
def XT (c:Nat):ByteArray:=ByteArray.mk #[c.toUInt8]
theorem Qyz {s:ByteArray} {c:Nat} (h:c < 256):Qjt s (XT c)=some (ixB s (c:Int)):=by
  have hz:(XT c).size=1:=rfl;have hb:Xf (XT c)=[(c:Int)]:=by
    show [((c.toUInt8.toNat:Nat):Int)]=_;rw [(Qer h).2 rfl]
  have key:Qdz s (XT c)=some (ixB s (c:Int)):=by
    refine En ?_;unfold Qdz;rw [hz];refine Runs.bif (fun hq=>?_) (fun hq=>Ef rfl ?_)
    · have hs:XT c=s:=by simpa using hq
      refine Ec ?_;rcases Qrq (s:=s) h with ⟨h1,_⟩ | ⟨a,b,h1,h2,h3⟩
      · rw [<-hs,hb] at h1;simp at h1
      · rw [h3];rw [<-hs,hb] at h1;cases a with
        | nil=>rfl
        | cons x a=>simp at h1
    · have hi : idx (α := Int) (bl (XT c)) 0 = some (c : Int) := by
        have:=Qxn (s:=XT c) (k:=0) (by rw [hb];exact Nat.one_pos);rw [show ((0:Nat):Int)=0 from rfl] at this;rw [this];simp [hb]
      exact Ea hi (Ea (b:=ixB s (c:Int)) rfl (Ec rfl))
  unfold Qjt;rw [key];rfl
theorem take_set {α:Type} (l:List α) (j:Nat) (x:α) (h:j < l.length):(l.set j x).take (j+1)=l.take j++[x]:=by
 rw [<-Ep (by rw [EK];exact h),List.take_set_of_le (Et _),List.getElem_set_self]
theorem QWc {s:ByteArray} {c:Nat} (h:c < 256) (hs:s.size<=100000):Runs (Qei s (XT c)) fun r=>r.map Xf=Zh (c:Int) (Xf s):=by
  have hz:(XT c).size=1:=rfl;have hlen:=Qdv s;obtain ⟨k,hk⟩:∃ k,k=(Xf s).count (c:Int):=⟨_,rfl⟩;have hk1:k<=s.size:=by rw [hk,<-hlen];exact List.count_le_length
  unfold Qei;refine Runs.bind (Runs.mono (Q:=fun r=>r.map Xf=Zh (c:Int) (Xf s)) ?_ fun r hr=>Ec hr);unfold Qva;refine Ee rfl (Ee (decide_eq_false fun e=>?_) (Ef rfl (Ea (b:=((k:Nat):Int)) ?_ ?_)))
  · have:=congrArg ByteArray.size e;rw [hz] at this;cases this
  · refine En ?_;unfold Quy;rw [hz];have hi:idx (α:=Int) (bl (XT c)) 0=some (c:Int):=by
      have hb:Xf (XT c)=[(c:Int)]:=by
        show [((c.toUInt8.toNat:Nat):Int)]=_;rw [(Qer h).2 rfl]
      have:=Qxn (s:=XT c) (k:=0) (by rw [hb];exact Nat.one_pos);rw [show ((0:Nat):Int)=0 from rfl] at this;rw [this];simp [hb]
    exact Ee rfl (Ef rfl (Ea hi (Ec (by rw [QHn h,hk]))))
  have hif:(if w64 ((s.size:Int)+1) < w64 ((k:Int)+1) then w64 ((s.size:Int)+1) else w64 ((k:Int)+1))=((k+1:Nat):Int):=by
    rw [Xz s.size (by omega),Xz k (by omega),if_neg (by omega)]
  rw [hif];have hmk:mk (((k+1:Nat)):Int) (ByteArray.empty:ByteArray)=some (List.replicate (k+1) ByteArray.empty):=by
    unfold mk;rw [if_pos (by omega),Em]
  refine Ea hmk (Eu (R:=fun x=>x.2.1.length=k+1/\x.2.2=(k:Int)/\(Xf x.1).count (c:Int)=0/\(x.2.1.take k).map Xf++Zh (c:Int) (Xf x.1)=Zh (c:Int) (Xf s)) (Runs.loop (fun x=>∃ j:Nat,x.2.2=(j:Int)/\j<=k/\x.2.1.length=k+1/\x.1.size<=s.size/\(Xf x.1).count (c:Int)=k - j/\(x.2.1.take j).map Xf++Zh (c:Int) (Xf x.1)=Zh (c:Int) (Xf s)) (fun x=>k - x.2.2.toNat) ⟨0,rfl,EL _,by simp,Et _,by rw [hk];rfl,by simp⟩ ?_) ?_)
  · rintro ⟨r,a,_⟩ ⟨j,rfl,h1,h2,h3,h4,h5⟩;dsimp only at h2 h3 h4 h5;unfold QDs;rw [hif];have hw:w64 (((k+1:Nat):Int) - 1)=(k:Int):=by rw [Yh (by omega)];omega
    rw [hw];by_cases hj:j < k
    · refine Ef (XN hj) (Ea (Qyz h) ?_);rcases Qrq (s:=r) h with ⟨g1,_⟩ | ⟨x,y,g1,g2,g3⟩
      · exfalso;rw [EC.2 g1] at h4;omega
      rw [g3];have hrl:x.length+y.length+1=r.size:=by rw [<-Qdv,g1];simp;omega
      obtain ⟨p,p1,p2⟩:=Qot (s:=r) (a:=0) (b:=x.length) (EL _) (by omega);obtain ⟨q,q1,q2⟩:=Qot (s:=r) (a:=x.length+1) (b:=r.size) (by omega) (Et _);have e1:w64 ((x.length:Int)+0)=(x.length:Int):=by rw [Yh (by omega)];omega
      have e2:w64 ((x.length:Int)+((XT c).size:Int))=((x.length+1:Nat):Int):=by rw [hz];exact Xz x.length (by omega)
      refine Ee (decide_eq_false (by omega)) ?_;rw [e1,e2];have hq:Xf q=y:=by
        rw [q2,g1,Ew (by simp;omega)];rw [show x.length+1=(x++[(c:Int)]).length by simp,show x++(c:Int)::y=(x++[(c:Int)])++y by simp];exact List.drop_left
      have hp:Xf p=x:=by rw [p2,g1];simp
      refine Ea p1 (Ea (Xq (by omega)) (Ea q1 (Ec ⟨⟨j+1,Xz j (by omega),by omega,?_,?_,?_,?_⟩,?_⟩)))
      · show (a.set _ p).length=_;rw [EK];exact h2
      · show q.size<=_;have:=Qdv q;rw [hq] at this;omega
      · show (Xf q).count _=_;rw [g1,List.count_append,Ez,EC.2 g2] at h4;rw [hq];omega
      · show ((a.set ((j:Nat):Int).toNat p).take (j+1)).map Xf++Zh (c:Int) (Xf q)=_;rw [Em,take_set _ _ _ (by omega),EJ,Es,Eh,hp,hq];rw [<-h5,g1,Qdj g2];rfl
      · show k - (w64 ((j:Int)+1)).toNat < k - ((j:Nat):Int).toNat;rw [Xz j (by omega)];simp;omega
    · obtain rfl:j=k:=by omega
      refine Ee (XP _) (Ec ⟨h2,rfl,by rw [h4];omega,h5⟩)
  · rintro ⟨r,a,_⟩ ⟨h1,rfl,h2,h3⟩;dsimp only at h1 h2 h3;have hc:cut (a.set ((k:Nat):Int).toNat r) 0 (w64 ((k:Int)+1))=some (a.take k++[r]):=by
      rw [Xz k (by omega),Em];unfold cut;rw [if_pos (by rw [EK];omega),Em,take_set _ _ _ (by omega)];rfl
    refine Ea (Xq (by omega)) (Ea hc (Ec ?_));rw [EJ,<-h3,Qjq (EC.1 h2)];rfl
def Jr (l:List ByteArray):ByteArray:=l.foldl (·++·) ByteArray.empty
theorem QHd (l:List ByteArray) (x:ByteArray):Jr (l++[x])=Jr l++x:=by simp [Jr,List.foldl_append]
def YV (sep:ByteArray):List ByteArray->ByteArray
 | []=>ByteArray.empty
 | a::l=>l.foldl (fun r x=>r++sep++x) a
theorem QMk {sep:ByteArray} {l:List ByteArray} (h:l≠[]) (x:ByteArray):YV sep (l++[x])=YV sep l++sep++x:=by
 cases l with
 | nil=>exact absurd rfl h
 | cons a l=>simp [YV,List.foldl_append]
theorem Qrr {sep:ByteArray} {m:Nat} (hs:sep.size<=1):∀ {l:List ByteArray},(∀ s∈l,s.size<=m)->(YV sep l).size<=l.length * (m+1):=by
 have key:∀ (l:List ByteArray) (a:ByteArray),(∀ s∈l,s.size<=m)->(l.foldl (fun r x=>r++sep++x) a).size<=a.size+l.length * (m+1):=by
  intro l
  induction l with
  | nil=>intro a _;simp
  | cons x l ih =>
   intro a h;have h1:=ih (a++sep++x) fun s hs=>h s (El _ hs)
   have h2:=h x (Ek ..);rw [Eb,Eb] at h1;rw [EA,EF,Nat.succ_mul];omega
 intro l h;cases l with
 | nil=>simp [YV]
 | cons a l =>
  have h1:=key l a fun s hs=>h s (El _ hs)
  have h2:=h a (Ek ..);rw [EF,Nat.succ_mul];show (l.foldl (fun r x=>r++sep++x) a).size<=_;omega
theorem Qfe {a b:ByteArray} (h:a.size+b.size<=1048576):cat a b=some (a++b):=by unfold cat;rw [if_pos h]
theorem Qzm {l:List ByteArray} {sep:ByteArray} (hs:sep.size=1) (hl:l.length<=1000) (hm:∀ s∈l,s.size<=100000):Qju l sep=some (YV sep l):=by
  refine En ?_;unfold Qju;by_cases h0:l.length=0
  · have:l=[]:=Eq_.1 h0;subst this;exact Ef rfl (Ec rfl)
  refine Ee (by simp;intro e;subst e;exact h0 rfl) ?_;by_cases h1:l.length=1
  · refine Ef (by rw [h1];rfl) (Ea (Qyw (by omega)) (Ec ?_));obtain ⟨a,rfl⟩:=List.length_eq_one_iff.1 h1;rfl
  refine Ee (by rw [decide_eq_false];omega) ?_;have e1:w64 ((l.length:Int) - 1)=((l.length - 1:Nat):Int):=by rw [Yh (by omega)];omega
  rw [hs,e1];refine Eu (R:=fun x=>x=((l.length - 1:Nat):Int)) (Ef rfl (Ea (QTn (by omega)) (Eu (R:=fun _=>True) (Ee ?_ (Ec trivial)) fun _ _=>Ec ?_))) ?_
  · refine decide_eq_false ?_;have h2:Int.tdiv 9223372036854775807 ((l.length - 1:Nat):Int)=((9223372036854775807 / (l.length - 1):Nat):Int):=rfl;have h3:9223372036854775807 / (l.length - 1)<=9223372036854775807:=Nat.div_le_self _ _;have h4:1000<=9223372036854775807 / (l.length - 1):=by
      rw [Nat.le_div_iff_mul_le (by omega)];omega
    rw [h2,Yh (by omega)];omega
  · rw [Yh (x:=((1:Nat):Int) * ((l.length - 1:Nat):Int)) (by omega),Yh (by omega)];omega
  rintro _ rfl;refine Eu (R:=fun x=>0<=x/\x<=1000+100000 * 1000) (Runs.loop (fun s=>∃ k:Nat,s.2=(k:Int)/\k<=l.length/\0<=s.1/\s.1<=1000+100000 * (k:Int)) (fun s=>l.length - s.2.toNat) ⟨0,rfl,EL _,by show (0:Int)<=((l.length - 1:Nat):Int);omega,by show ((l.length - 1:Nat):Int)<=_;omega⟩ ?_) ?_
  · rintro ⟨x,_⟩ ⟨k,rfl,hk,h2,h3⟩;dsimp only at h2 h3;unfold QDq;by_cases hlt:k < l.length
    · have h4:=hm _ (Ed hlt);refine Ef (XN hlt) (Ea (Xq hlt) (Ee ?_ (Ec ⟨⟨k+1,?_,by omega,?_,?_⟩,?_⟩)))
      · rw [Yh (by omega)];exact decide_eq_false (by omega)
      · exact Xz k (by omega)
      · show 0<=w64 (x+(l[k].size:Int));rw [Yh (by omega)];omega
      · show w64 (x+(l[k].size:Int))<=_;rw [Yh (by omega)];omega
      · show l.length - (w64 ((k:Int)+1)).toNat < l.length - ((k:Nat):Int).toNat;rw [Xz k (by omega)];simp;omega
    · have:k=l.length:=by omega
      subst this;refine Ee (XP _) (Ec ⟨h2,?_⟩);show x<=_;omega
  rintro x ⟨h2,h3⟩;have hg:grw x=some ():=by unfold grw;rw [if_pos (by omega)]
  refine Ea hg (Ea (Qyw (by omega)) (Ea (Zt (by rw [Zu];have:=hm _ (Ed (show 0 < l.length by omega));simp;omega)) ?_));have hcut:cut l 1 (l.length:Int)=some (l.drop 1):=Qkw (by omega);refine Ea hcut ?_;have hjs:∀ k,k<=l.length->(YV sep (l.take k)).size<=1000 * 100001:=fun k hk=>by
    have:=Qrr (sep:=sep) (m:=100000) (by omega) (l:=l.take k) fun s hs=>hm s (Ey hs)
    have h5:(l.take k).length<=1000:=by simp;omega
    exact Nat.le_trans this (EO _ h5)
  refine Runs.bind (Runs.mono (Q:=fun xs=>xs=bl (YV sep l)) (Runs.loop (fun s=>∃ k:Nat,s=((k:Int),bl (YV sep (l.take (k+1))))/\k+1<=l.length) (fun s=>l.length - s.1.toNat) ⟨0,?_,by omega⟩ ?_) ?_)
  · have : l.take (0 + 1) = [l[0]'(by omega)] := by
      cases l with
      | nil=>exact absurd rfl h0
      | cons a l=>rfl
    rw [this];rfl
  · rintro _ ⟨k,rfl,hk⟩;unfold QDr;have hdl:(l.drop 1).length=l.length - 1:=by simp
    by_cases hlt:k+1 < l.length
    · have h4:=hm _ (Ed hlt);have h5:=hjs (k+1) hk;have h6:((l.drop 1)[k]'(by omega)).size<=100000 := by rw [List.getElem_drop];exact hm _ (Ed _)
      have h7:(bl (YV sep (l.take (k+1)))).length+(bl sep).length<=1073741824:=by rw [Zu,Zu,hs];omega
      have h8:(bl (YV sep (l.take (k+1)))++bl sep).length+(bl ((l.drop 1)[k]'(by omega))).length<=1073741824 := by rw [List.length_append, Zu, Zu, Zu, hs];omega
      refine Ef (XN (by omega)) (Ea (Xq (xs:=l.drop 1) (by omega)) (Ea (Zt h7) (Ea (Zt h8) (Ec ⟨⟨k+1,?_,by omega⟩,?_⟩))))
      · rw [Xz k (by omega),<-Qkp,<-Qkp,<-QMk (List.ne_nil_of_length_pos (by rw [List.length_take];omega))];have:l.take (k+1)++[(l.drop 1)[k]'(by omega)]=l.take (k+1+1) := by
          rw [List.getElem_drop,<-Qvh l (k+1) hlt];simp only [Nat.add_comm]
        rw [this]
      · show l.length - (w64 ((k:Int)+1)).toNat < l.length - ((k:Nat):Int).toNat;rw [Xz k (by omega)];simp;omega
    · refine Ee ?_ (Ec ?_)
      · have:k=(l.drop 1).length:=by omega
        subst this;exact XP _
      · show bl (YV sep (l.take (k+1)))=_;rw [Ew (by omega)]
  · rintro _ rfl;exact Ec (Qng _)
theorem QAi:∀ {a b:List ByteArray},a.map Xf=b.map Xf->a=b
 | [],[],_=>rfl
 | [],_::_,h=>by cases h
 | _::_,[],h=>by cases h
 | x::a,y::b,h=>by
  obtain ⟨h1,h2⟩:=List.cons.inj h;rw [Qkq h1,QAi h2]
theorem Qwy (a b c:ByteArray):a++b++c=a++(b++c):=Qkq (by simp only [Z7,Eh])
theorem Qym (sp a b:ByteArray):∀ l:List ByteArray,l.foldl (fun r x=>r++sp++x) (a++b)=a++l.foldl (fun r x=>r++sp++x) b
 | []=>rfl
 | x::l=>by
  rw [EA,EA,<-Qym sp a (b++sp++x) l,Qwy a b sp,Qwy a (b++sp) x]
theorem Qzk (sp a b:ByteArray) (l:List ByteArray):YV sp (a::b::l)=a++sp++YV sp (b::l):=by
 show (l.foldl (fun r x=>r++sp++x) (a++sp++b))=_;rw [Qym];rfl
theorem Quv {c:Int} {sp:ByteArray} (hsp:Xf sp=[c]):∀ (l:List ByteArray) (a:ByteArray),(∀ w∈a::l,c∉Xf w)->Zh c (Xf (YV sp (a::l)))=(a::l).map Xf
 | [],a,h=>Qjq (h a (Ek ..))
 | b::l,a,h=>by
  rw [Qzk,Z7,Z7,hsp,Eh];show Zh c (Xf a++c::Xf (YV sp (b::l)))=_;rw [Qdj (h a (Ek ..)),Quv hsp l b fun w hw=>h w (El _ hw)];rfl
theorem Qzl {sp:ByteArray} {x:Int}:∀ (l:List ByteArray) (a:ByteArray),x∈Xf (YV sp (a::l))->x∈Xf sp\/∃ w∈a::l,x∈Xf w
 | [],a,h=>.inr ⟨a,Ek ..,h⟩
 | b::l,a,h=>by
  rw [Qzk,Z7,Z7] at h;rcases EB.1 h with h | h
  ·rcases EB.1 h with h | h
   ·exact .inr ⟨a,Ek ..,h⟩
   ·exact .inl h
  ·rcases Qzl l b h with h | ⟨w,hw,h⟩
   ·exact .inl h
   ·exact .inr ⟨w,El _ hw,h⟩
theorem words {c:Nat} (hc:c < 256) {s:ByteArray} (hs:s.size<=1000) {W:List ByteArray} (h:Zh (c:Int) (Xf s)=W.map Xf):Qei s (XT c)=some W:=by
 obtain ⟨r,h1,h2⟩:=QWc (s:=s) hc (by omega);rw [h1,QAi (h2.trans h)]
theorem QHv {c:Nat} (hc:c < 256) {A B:ByteArray} (hs:(A++XT c++B).size<=1000) (hA:(c:Int)∉Xf A):Qor (A++XT c++B) (XT c)=some (A,B,true):=by
 generalize hS:A++XT c++B=s at hs ⊢;have hb:Xf s=Xf A++(c:Int)::Xf B:=by
  rw [<-hS,Z7,Z7,Eh];show Xf A++([((c.toUInt8.toNat:Nat):Int)]++Xf B)=_;rw [(Qer hc).2 rfl];rfl
 have hlen:=Qdv s;have hAl:=Qdv A;have hl:s.size=A.size+(B.size+1):=by rw [<-hlen,hb,List.length_append,EF,hAl,Qdv]
 have hi:Qdz s (XT c)=some ((A.size:Nat):Int):=by
  have h:=Qyz (s:=s) (c:=c) hc;unfold Qjt at h;have hx:ixB s (c:Int)=((A.size:Nat):Int):=by
   rcases Qrq (s:=s) (c:=c) hc with ⟨k1,k2⟩ | ⟨a,b,k1,k2,k3⟩
   ·exact absurd (by rw [hb];simp) k1
   ·rw [k3,<-hAl];have e:=congrArg (Zh (c:Int)) (k1.symm.trans hb);rw [Qdj k2,Qdj hA] at e;rw [(List.cons.inj e).1]
  rw [hx] at h;cases h2:Qdz s (XT c) with
  | none=>rw [h2] at h;cases h
  | some v=>rw [h2] at h;exact h
 have h1:(XT c).size=1:=rfl;obtain ⟨A',p1,p2⟩:=Qot (s:=s) (a:=0) (b:=A.size) (EL _) (by omega);obtain ⟨B',q1,q2⟩:=Qot (s:=s) (a:=A.size+1) (b:=s.size) (by omega) (Et _);obtain rfl:A'=A:=Qkq (by rw [p2,hb,<-hAl,List.take_left',List.drop_zero];rfl);obtain rfl:B'=B:=Qkq (by
  rw [q2,Ew (by omega),hb,List.drop_append,List.drop_of_length_le (by omega),<-hAl];simp)
 refine En ?_;unfold Qor;refine Ea (b:=(A',B',true)) (En ?_) (Ec rfl);unfold Qrn;refine Ea hi (Ef (decide_eq_true (by omega)) (Ea p1 (Ea (b:=B') ?_ (Ec rfl))));rw [h1,show w64 (((A'.size:Nat):Int)+((1:Nat):Int))=((A'.size+1:Nat):Int) from Xz _ (by omega)];exact q1
end Go.Gw

end
section
set_option maxRecDepth 4096
set_option linter.unusedVariables false
set_option linter.unusedSectionVars false
namespace Go.Gw
open Go
noncomputable def Xr (n:Int):ByteArray:=(Jf n).getD ByteArray.empty
def Z3 (n:Int):Prop:=0<=n/\n < 100
theorem QHw:∀ n:Fin 100,(match Jf ((n.val:Nat):Int) with
  | some a=>decide (a.size<=2)&&((Xf a).all fun c=>decide (48<=c)&&decide (c<=57))&&decide (Qfu a=some (((n.val:Nat):Int),true))
  | none=>false)=true:=by decide +kernel
attribute [local irreducible] loop
structure DecOk (n:Int):Prop where
 i:Jf n=some (Xr n)
 s:(Xr n).size<=2
 r:∀ x∈Xf (Xr n),48<=x/\x<=57
 n:Qfu (Xr n)=some (n,true)
theorem Z8 {n:Int} (h:Z3 n):DecOk n:=by
 obtain ⟨h0,h⟩:=h;have:=QHw ⟨n.toNat,by omega⟩;rw [show ((((⟨n.toNat,by omega⟩:Fin 100).val:Nat)):Int)=n by show ((n.toNat:Nat):Int)=n;omega] at this;cases hi:Jf n with
 | none=>rw [hi] at this;cases this
 | some a =>
  rw [hi] at this;simp only [ED,decide_eq_true_eq,List.all_eq_true] at this;have hb:Xr n=a:=by unfold Xr;rw [hi];rfl
  exact ⟨by rw [hb,hi],by rw [hb];exact this.1.1,by rw [hb];exact this.1.2,by rw [hb];exact this.2⟩
theorem Qfh {x n:Int} (h:Z3 n) (hx:x < 48\/57 < x):x∉Xf (Xr n):=fun hm=>by
 have:=(Z8 h).r x hm;omega
theorem Qxy {n:Int} (h:n=0\/n=1):Z3 n/\Xf (Xr n)=[48+n]/\(Xr n).size=1:=by
 have e0:Jf 0=some ⟨#[48]⟩:=by decide +kernel
 have e1:Jf 1=some ⟨#[49]⟩:=by decide +kernel
 unfold Xr;rcases h with rfl | rfl
 ·rw [e0];exact ⟨⟨by decide,by decide⟩,rfl,rfl⟩
 ·rw [e1];exact ⟨⟨by decide,by decide⟩,rfl,rfl⟩
/-! ### The text of a state -/
noncomputable def Zq (l:List Int):ByteArray:=if l=[] then ⟨#[45]⟩ else Jr (l.map Xr)
noncomputable def Y9 (t:Nl):ByteArray:=if t.Nd=[] then ⟨#[45]⟩ else Xr t.Nm++XT 58++YV (XT 44) (t.Nd.map Xr)
noncomputable def fmt (x:Ng):ByteArray:=YV (XT 32) ([Zq x.Na,Xr x.Ni]++x.Nb.map Y9)
structure TrainOk (t:Nl):Prop where
 un:(t.Nd=[]/\t.Nm=0)\/(1<=t.Nm/\t.Nm<=t.Nd.length)
 len:t.Nd.length<=10
 ch:∀ s∈t.Nd,Z3 s
structure Told (x:Ng):Prop where
 sw:x.Na.length<=60
 po:∀ n∈x.Na,n=0\/n=1
 t1:1<=x.Nb.length
 tr:x.Nb.length<=20
 ct:Z3 x.Ni
 ch:∀ t∈x.Nb,TrainOk t
theorem Qqo {l:List Int} (h:∀ s∈l,Z3 s) (hl:l.length<=10):(YV (XT 44) (l.map Xr)).size<=30:=by
 have:=Qrr (sep:=XT 44) (m:=2) (Et _) (l:=l.map Xr) fun s hs=>by
  obtain ⟨n,hn,rfl⟩:=Eo.1 hs;exact (Z8 (h n hn)).s
 rw [Ei] at this;omega
theorem Qxo:∀ (l:List Int) (a:ByteArray),(∀ n∈l,n=0\/n=1)->Xf ((l.map Xr).foldl (·++·) a)=Xf a++l.map (48+·)
 | [],a,_=>by simp
 | n::l,a,h=>by
  rw [Es,EA,Qxo l _ fun m hm=>h m (El _ hm),Z7,(Qxy (h n (Ek ..))).2.1,Eh];rfl
theorem Qhn {l:List Int} (h:∀ n∈l,n=0\/n=1):Xf (Jr (l.map Xr))=l.map (48+·)/\(Jr (l.map Xr)).size=l.length:=by
 have e:Xf (Jr (l.map Xr))=l.map (48+·):=Qxo l ByteArray.empty h;exact ⟨e,by rw [<-Qdv,e,Ei]⟩
theorem Qvt {t:Nl} (h:TrainOk t) (hc:¬ t.Nd=[]):1<=t.Nm/\t.Nm<=t.Nd.length/\Z3 t.Nm:=by
 rcases h.un with e | e
 ·exact absurd e.1 hc
 ·have:=h.len;exact ⟨e.1,e.2,by omega,by omega⟩
theorem QYh {t:Nl} (h:TrainOk t):(Y9 t).size<=40:=by
 unfold Y9;split
 ·decide
 ·rename_i hc;rw [Eb,Eb];have:=Qqo h.ch h.len;have:=(Z8 (Qvt h hc).2.2).s;have e:(XT 58).size=1:=rfl;omega
theorem QDx {l:List Int} (h:∀ n∈l,n=0\/n=1) (hl:l.length<=60):(Zq l).size<=60:=by
 unfold Zq;split
 ·decide
 ·rw [(Qhn h).2];exact hl
theorem QFa {x:Ng} (h:Told x) {s:ByteArray} (hs:s∈[Zq x.Na,Xr x.Ni]++x.Nb.map Y9):s.size<=60:=by
 rcases EB.1 hs with hs | hs
 ·have h1:=QDx h.po h.sw;have h2:=(Z8 h.ct).s;simp at hs;rcases hs with rfl | rfl<;>omega
 ·obtain ⟨t,ht,rfl⟩:=Eo.1 hs;have:=QYh (h.ch t ht);omega
theorem QKy {x:Ng} (h:Told x) (h3:x.Nb.length<=3):(fmt x).size<=900:=by
 have:=Qrr (sep:=XT 32) (m:=60) (Et _) fun s hs=>QFa h hs
 have h2:([Zq x.Na,Xr x.Ni]++x.Nb.map Y9).length<=5:=by simp;omega
 have h3:=EO (60+1) h2;unfold fmt;omega
theorem QKx {x:Ng} (h:Told x):Qea x=some (fmt x):=by
  refine En ?_;have hsw:=h.sw;have htr:=h.tr;unfold Qea;refine Ea (b:=bl (Jr (x.Na.map Xr))) (Qap (fun k=>((k:Int),bl (Jr ((x.Na.take k).map Xr)))) x.Na.length (fun k hk=>En ?_) (by unfold Qsa;dsimp only;rw [XP,Ej];rfl)) ?_
  · have hz:(Jr ((x.Na.take k).map Xr)).size<=60:=by rw [(Qhn fun n hn=>h.po n (Ey hn)).2,List.length_take];omega
    have hp:=h.po _ (Ed hk);obtain ⟨d1,_,d3⟩:=Qxy hp;have hi:=(Z8 d1).i;have hn:Runs (Ev (Jf x.Na[k]) fun r=>Ev (app (bl (Jr ((x.Na.take k).map Xr))) (bl r)) fun q=>some (Sum.inl (w64 ((k:Int)+1),q))) (fun r=>r=Sum.inl (β:=List U8) (((k+1:Nat):Int),bl (Jr ((x.Na.take (k+1)).map Xr)))):=by
      refine Ea hi (Ea (Zt (by rw [Zu,Zu];omega)) (Ec ?_));rw [Xz k (by omega),<-Qgm x.Na Xr k hk,QHd,Qkp]
    unfold Qsa;refine Ef (XN hk) (Ea (Xq hk) (Runs.bif (fun h1=>Ef h1 hn) (fun h1=>?_)));have h1:=of_decide_eq_false h1;exact Ef (decide_eq_true (hp.resolve_left h1)) hn
  refine Eu (R:=fun l=>l=[Jr (x.Na.map Xr),Xr x.Ni]) (Ea (Z8 h.ct).i (Ec (by rw [Qng]))) ?_;rintro _ rfl;refine Ea (b:=Jr (x.Na.map Xr)) rfl (Eu (R:=fun l=>l=[Zq x.Na,Xr x.Ni]) ?_ ?_)
  · unfold Zq;have hz:=(Qhn h.po).2;by_cases e:x.Na=[]
    · rw [if_pos e];exact Ef (decide_eq_true (by rw [e];rfl)) (Ea (b:=Jr (x.Na.map Xr)) rfl (Ec rfl))
    · rw [if_neg e];refine Ee (decide_eq_false fun e2=>e ?_) (Ec rfl);rw [e2] at hz;exact Eq_.1 hz.symm
  rintro _ rfl;refine Ea (b:=[Zq x.Na,Xr x.Ni]++x.Nb.map Y9) (Qap (fun k=>([Zq x.Na,Xr x.Ni]++(x.Nb.take k).map Y9,(k:Int))) x.Nb.length (fun k hk=>En ?_) (by unfold Qsc;dsimp only;rw [XP,Ej];rfl)) ?_
  · have hT:=h.ch _ (Ed hk);have hl:=hT.len;have hnext:∀ c,c=Y9 x.Nb[k]->Runs (Ev (app ([Zq x.Na,Xr x.Ni]++(x.Nb.take k).map Y9) [c]) fun q=>some (Sum.inl (q,w64 ((k:Int)+1)))) (fun r=>r=Sum.inl (β:=List ByteArray) ([Zq x.Na,Xr x.Ni]++(x.Nb.take (k+1)).map Y9,((k+1:Nat):Int))):=fun c hc=>by
      refine Ea (Zt (by simp;omega)) (Ec ?_);rw [Xz k (by omega),hc,Eh,Qgm x.Nb Y9 k hk]
    unfold Qsc;refine Ef (XN hk) (Ea (Xq hk) ?_);by_cases he:x.Nb[k].Nd=[]
    · have hu : x.Nb[k].Nm = 0 := by
        rcases hT.un with e | e
        · exact e.2
        · rw [he] at e;simp at e;omega
      exact Ef (by rw [he,hu];rfl) (hnext _ (by unfold Y9;rw [if_pos he]))
    · obtain ⟨_,_,hu⟩:=Qvt hT he;refine Ee ?_ (Ea (b:=x.Nb[k].Nd.map Xr) (Qap (fun j=>((x.Nb[k].Nd.take j).map Xr,(j:Int))) x.Nb[k].Nd.length (fun j hj=>En ?_) (by unfold Qsb;dsimp only;rw [XP,Ej];rfl)) ?_)
      · rw [decide_eq_false fun e=>he (Eq_.1 (by omega))];rfl
      · unfold Qsb;refine Ef (XN hj) (Ea (Xq hj) (Ea (Z8 (hT.ch _ (Ed hj))).i (Ea (Zt (by simp;omega)) (Ec ?_))));rw [Xz j (by omega),Qgm x.Nb[k].Nd Xr j hj]
      have hcs:=Qqo hT.ch hl;have hd:=(Z8 hu).s;have e2:(ByteArray.mk #[58]).size=1:=rfl;refine Ea (Z8 hu).i (Ea (Qfe (by omega)) (Ea (Qzm (sep:=XT 44) rfl (by simp;omega) fun s hs=>?_) (Ea (Qfe (by rw [Eb];omega)) (hnext _ ?_))))
      · obtain ⟨n,hn,rfl⟩:=Eo.1 hs;have:=(Z8 (hT.ch n hn)).s;omega
      · unfold Y9;rw [if_neg he];rfl
  refine Ea (Qzm (sep:=XT 32) rfl (by simp;omega) fun s hs=>?_) (Ec rfl);have:=QFa h hs;omega
/-! ### Read back -/
theorem QBn {l:List Int} (hl:l.length<=2000) (hs:∀ s∈l,Z3 s):Qin (l.map Xr)=some (l,true):=by
 refine En ?_;unfold Qin;refine Ea (b:=l) (Qap (fun k=>(l.take k,(k:Int))) l.length (fun k hk=>En ?_) ?_) (Ec rfl)
 ·have hm:k < (l.map Xr).length:=by rwa [Ei]
  have e:(l.map Xr)[k]=Xr l[k]:=EG ..;unfold Qsq;refine Ef (XN hm) (Ea (Xq hm) (Ea (by rw [e];exact (Z8 (hs _ (Ed hk))).n) (Ee rfl (Ea (Zt (by simp;omega)) (Ec ?_)))));rw [Xz k (by omega),Ep hk]
 ·unfold Qsq;dsimp only;rw [Ei,XP,Ej];rfl
theorem QHh {l:List Int} (hl:∀ s∈l,Z3 s) {x:Int} (h1:x≠44) (h2:x < 48\/57 < x):x∉Xf (YV (XT 44) (l.map Xr)):=fun hm=>by
 cases l with
 | nil=>cases hm
 | cons a l =>
  rcases Qzl _ _ hm with hm | ⟨w,hw,hm⟩
  ·exact h1 (List.mem_singleton.1 hm)
  ·rw [<-Es] at hw;obtain ⟨n,hn,rfl⟩:=Eo.1 hw;exact Qfh (hl n hn) h2 hm
theorem QEs {t:Nl} (h:TrainOk t):Qmu (Y9 t)=some (t,true)/\(32:Int)∉Xf (Y9 t):=by
  unfold Y9;by_cases he:t.Nd=[]
  · rw [if_pos he];refine ⟨?_,by decide⟩;have hu:t.Nm=0:=by
      rcases h.un with e | e
      · exact e.2
      · rw [he] at e;simp at e;omega
    cases t;simp only at he hu;subst he hu;rfl
  · obtain ⟨u1,u2,hu⟩:=Qvt h he;have hl:=h.len;have hcs:=Qqo h.ch hl;have hd:=(Z8 hu).s;have e2:(XT 58).size=1:=rfl;have hz:(Xr t.Nm++XT 58++YV (XT 44) (t.Nd.map Xr)).size<=1000:=by rw [Eb,Eb];omega
    have h8:Xf (Xr t.Nm++XT 58++YV (XT 44) (t.Nd.map Xr))=Xf (Xr t.Nm)++58::Xf (YV (XT 44) (t.Nd.map Xr)):=by
      rw [Z7,Z7,Eh];rfl
    rw [if_neg he];refine ⟨En ?_,fun hm=>?_⟩
    · unfold Qmu;refine Ee (decide_eq_false fun e=>?_) (Ea (QHv (c:=58) (by decide) hz (Qfh hu (by decide))) (Ea (Z8 hu).n (Ea (words (c:=44) (W:=t.Nd.map Xr) (by decide) (show (YV (XT 44) (t.Nd.map Xr)).size<=1000 by omega) ?_) (Ea (QBn (by omega) h.ch) (Ec rfl)))))
      · rw [e] at h8;have:(58:Int)∈Xf (ByteArray.mk #[45]):=by rw [h8];simp
        revert this;decide
      · have hn : ∀ w ∈ t.Nd.map Xr, (44 : Int) ∉ Xf w := fun w hw => by
          obtain ⟨n,hn,rfl⟩:=Eo.1 hw;exact Qfh (h.ch n hn) (by decide)
        cases hc:t.Nd with
        | nil=>exact absurd hc he
        | cons a l =>
          rw [hc,Es] at hn;exact Quv (c:=44) rfl _ _ hn
    · rw [h8] at hm;rcases EB.1 hm with hm | hm
      · exact Qfh hu (by decide) hm
      · rcases Ex.1 hm with hm | hm
        · exact absurd hm (by decide)
        · exact QHh h.ch (by decide) (by decide) hm
theorem QYb {s:ByteArray} (h:s.size<=100000):tob s=some (Xf s:List Int):=by unfold tob;rw [if_pos (by omega)];rfl
theorem QWz {l:List Int} (h:∀ n∈l,n=0\/n=1) (hl:l.length<=60):loop (Qly (l.map (48+·))) (0,([]:List Int))=some l:=by
 refine Qap (fun k=>((k:Int),l.take k)) l.length (fun k hk=>En ?_) ?_
 ·have hm:k < (l.map (48+·)).length:=by rwa [Ei]
  have e:(l.map (48+·))[k]=48+l[k]:=EG ..;have hp:=h _ (Ed hk);unfold Qly;refine Ef (XN hm) (Ea (b:=48+l[k]) (by rw [<-e];exact Xq hm) (Ee ?_ (Ea (Zt (by simp;omega)) (Ec ?_))))
  ·rcases hp with e | e<;>rw [e]<;>rfl
  ·rw [Xz k (by omega),show w64 (IntKind.wrap .u8 (48+l[k] - 48))=l[k] by rcases hp with e | e<;>rw [e]<;>rfl,Ep hk]
 ·unfold Qly;show (bif decide (((l.length:Nat):Int) < (((l.map (48+·)).length:Nat):Int)) then _ else _)=_;rw [Ei,XP,Ej];rfl
theorem QWe {x:Ng} (h:Told x) (h3:x.Nb.length<=3):Qlz (fmt x)=some (x,0):=by
 have hz:=QKy h h3;have hsw:=QDx h.po h.sw;have h45:Zq x.Na=⟨#[45]⟩↔x.Na=[]:=by
  unfold Zq;refine ⟨fun e=>?_,fun e=>if_pos e⟩;split at e
  ·assumption
  ·rename_i hne;have h1:=(Qhn h.po).1;rw [e] at h1;cases hs:x.Na with
   | nil=>rfl
   | cons n l =>
    rw [hs] at h1;have h2:=h.po n (by rw [hs];exact Ek ..);have h3:(45:Int)=48+n:=(List.cons.inj h1).1;omega
 have hsm:¬ x.Na=[]->Xf (Zq x.Na)=x.Na.map (48+·):=fun hne=>by unfold Zq;rw [if_neg hne];exact (Qhn h.po).1
 have h32:(32:Int)∉Xf (Zq x.Na):=fun hm=>by
  by_cases he:x.Na=[]
  ·rw [h45.2 he] at hm;revert hm;decide
  ·rw [hsm he] at hm;obtain ⟨n,hn,e⟩:=Eo.1 hm;have:=h.po n hn;omega
 refine En ?_;unfold Qlz;refine Ea (words (c:=32) (W:=Zq x.Na::Xr x.Ni::x.Nb.map Y9) (by decide) (by omega) (Quv (c:=32) rfl _ _ fun w hw=>?_)) ?_
 ·rcases Ex.1 hw with rfl | hw
  ·exact h32
  ·rcases Ex.1 hw with rfl | hw
   ·exact Qfh h.ct (by decide)
   ·obtain ⟨t,ht,rfl⟩:=Eo.1 hw;exact (QEs (h.ch t ht)).2
 have ht1:=h.t1;have htl:=h.tr;generalize hW:Zq x.Na::Xr x.Ni::x.Nb.map Y9=W;have hWl:W.length=x.Nb.length+2:=by rw [<-hW];simp
 have i0:idx W 0=some (Zq x.Na):=by rw [<-hW];exact (Xq? (k:=0)).trans rfl
 have i1:idx W 1=some (Xr x.Ni):=by rw [<-hW];exact (Xq? (k:=1)).trans rfl
 have hcut:cut W 2 ((W.length:Nat):Int)=some (x.Nb.map Y9):=by
  unfold cut;rw [if_pos (by omega),Em,Ej,<-hW];rfl
 refine Ee (decide_eq_false (by omega)) (Ea i0 (Eu (R:=fun o=>o=x.Na) ?_ ?_))
 ·by_cases he:x.Na=[]
  ·exact Ee (by rw [decide_eq_true (h45.2 he)];rfl) (Ec he.symm)
  ·exact Ef (by rw [decide_eq_false fun e=>he (h45.1 e)];rfl) (Ea i0 (Ea (QYb (by omega)) (Ea (by rw [hsm he];exact QWz h.po h.sw) (Ec rfl))))
 rintro _ rfl;have hne:¬ Zq x.Na=ByteArray.mk #[]:=fun e=>by
  by_cases he:x.Na=[]
  ·rw [h45.2 he] at e;revert e;decide
  ·have h1:=hsm he;rw [e] at h1;have h2:=congrArg List.length h1;rw [Ei] at h2;exact he (Eq_.1 h2.symm)
 refine Ea i1 (Ea (Z8 h.ct).n (Ea (b:=Zq x.Na) i0 (Ee (by rw [decide_eq_false hne];rfl) (Ea hcut (Ea (b:=x.Nb) (Qap (fun k=>((k:Int),x.Nb.take k)) x.Nb.length (fun k hk=>En ?_) ?_) (Ec rfl))))))
 ·have hm:k < (x.Nb.map Y9).length:=by rwa [Ei]
  have e:(x.Nb.map Y9)[k]=Y9 x.Nb[k]:=EG ..;unfold Qsd;refine Ef (XN hm) (Ea (Xq hm) (Ea (by rw [e];exact (QEs (h.ch _ (Ed hk))).1) (Ee rfl (Ea (Zt (by simp;omega)) (Ec ?_)))));rw [Xz k (by omega)];show Sum.inl (_,_++[x.Nb[k]])=_;rw [Ep hk]
 ·unfold Qsd;show (bif decide (((x.Nb.length:Nat):Int) < (((x.Nb.map Y9).length:Nat):Int)) then _ else _)=_;rw [Ei,XP,Ej];rfl
/-! ### Events -/
def WRD:List ByteArray:=[(ByteArray.mk #[112,108,97,99,101]),(ByteArray.mk #[114,101,113,117,101,115,116]),(ByteArray.mk #[116,117,114,110]),(ByteArray.mk #[101,110,116,101,114]),(ByteArray.mk #[108,101,97,118,101]),(ByteArray.mk #[103,105,118,101]),(ByteArray.mk #[116,97,107,101])]
def wrd (k:Int):ByteArray:=WRD.getD k.toNat ByteArray.empty
theorem QZd:∀ k:Fin 7,idx WRD ((k.val:Nat):Int)=some (wrd ((k.val:Nat):Int))/\(wrd ((k.val:Nat):Int)).size<=7/\(32:Int)∉Xf (wrd ((k.val:Nat):Int))/\Quu WRD (wrd ((k.val:Nat):Int))=some ((k.val:Nat):Int)/\Qmd ((k.val:Nat):Int)=some (decide (((k.val:Nat):Int)<=2)):=by decide +kernel
noncomputable def Qlf (e:Nj):ByteArray:=if e.Kind<=2 then wrd e.Kind++XT 32++Xr e.A++(XT 32++Xr e.B) else wrd e.Kind++XT 32++Xr e.A
theorem QJe {e:Nj} (hk:0<=e.Kind/\e.Kind<=6) (hA:Z3 e.A) (hB:Z3 e.B) (h0:¬ e.Kind<=2->e.B=0):Qlw e=some (Qlf e)/\Qhy (Qlf e)=some (e,0):=by
  obtain ⟨w1,w2,w3,w4,w5⟩:=QZd ⟨e.Kind.toNat,by omega⟩;dsimp only at w1 w2 w3 w4 w5;rw [show ((e.Kind.toNat:Nat):Int)=e.Kind by omega] at w1 w2 w3 w4 w5;have a:=Z8 hA;have b:=Z8 hB;have a2:=a.s;have b2:=b.s;have e1:(XT 32).size=1:=rfl;refine ⟨En ?_,En ?_⟩
  · unfold Qlw Qlf;refine Ea (Qzi e.Kind) (Ee (by rw [decide_eq_true hk.1,decide_eq_true hk.2];rfl) (Ea w1 (Ea (Qfe (b:=XT 32) (by omega)) (Ea a.i (Ea (Qfe (by rw [Eb];omega)) (Ea w5 (Runs.bif (fun h=>?_) (fun h=>?_))))))))
    · rw [if_pos (of_decide_eq_true h)];exact Ea b.i (Ea (Qfe (a:=XT 32) (by omega)) (Ea (Qfe (by rw [Eb,Eb,Eb];omega)) (Ec rfl)))
    · rw [if_neg (of_decide_eq_false h)];exact Ec rfl
  · have key : ∀ l : List Int, (∀ n ∈ l, Z3 n) -> l.length <= 2 -> ∀ s : ByteArray, s.size <= 1000 -> Zh 32 (Xf s) = (wrd e.Kind :: l.map Xr).map Xf -> l.length = (bif decide (e.Kind <= 2) then 2 else 1) -> idx l 0 = some e.A -> (bif decide (e.Kind <= 2) then idx l 1 else some (0 : Int)) = some e.B -> Runs (Qhy s) (· = (e, 0)) := by
      intro l hl hn s hs hW hlen i0 i1;unfold Qhy;refine Ea (words (c:=32) (by decide) hs hW) (Ea (b:=wrd e.Kind) ((Xq? (k:=0)).trans rfl) (Ea w4 (Ea (b:=l.map Xr) (Qkw (by simp)) (Ea (QBn (by omega) hl) (Ee (by rw [decide_eq_false (by omega)];rfl) (Ea w5 (Ee ?_ (Ea i0 (Ea i1 (Ec rfl))))))))));show (!decide ((l.length:Int)=_))=false;rw [hlen];cases decide (e.Kind<=2)<;>rfl
    have hd:∀ {n:Int},Z3 n->(32:Int)∉Xf (Xr n):=fun h=>Qfh h (by decide)
    unfold Qlf;by_cases h2:e.Kind<=2
    · rw [if_pos h2];refine key [e.A,e.B] (by simp [hA,hB]) (Et _) _ (by rw [Eb,Eb,Eb,Eb];omega) ?_ (by rw [decide_eq_true h2];rfl) rfl (by rw [decide_eq_true h2];rfl);rw [Z7,Z7,Z7,Z7,Eh,Eh];show Zh (32:Int) (Xf (wrd e.Kind)++32::(Xf (Xr e.A)++32::Xf (Xr e.B)))=_;rw [Qdj w3,Qdj (hd hA),Qjq (hd hB)];rfl
    · rw [if_neg h2];refine key [e.A] (by simp [hA]) (by simp) _ (by rw [Eb,Eb];omega) ?_ (by rw [decide_eq_false h2];rfl) rfl (by rw [decide_eq_false h2,h0 h2];rfl);rw [Z7,Z7,Eh];show Zh (32:Int) (Xf (wrd e.Kind)++32::Xf (Xr e.A))=_;rw [Qdj w3,Qjq (hd hA)];rfl
end Go.Gw

end
section
set_option maxRecDepth 4096
namespace Go.Gw
open Go
attribute [local irreducible] loop
theorem Qxp {n:Int}:Xj n=true↔0<=n/\n<=250:=by unfold Xj;simp
theorem QHk {t:Nh} (h0:Xj t.e0=true) (h1:Xj t.e1=true) (h2:Xj t.e2=true) (h3:Xj t.e3=true):JC t=((t.e0+1)+2 * (t.e1+1)+3 * (t.e2+1)+4 * (t.e3+1)) % 251:=by
 rw [Qxp] at h0 h1 h2 h3;have e:JC t=Int.tmod ((t.e0+1)+2 * (t.e1+1)+3 * (t.e2+1)+4 * (t.e3+1)) 251:=by
  unfold JC;rw [Yh (x:=t.e0+1) (by omega),Yh (x:=t.e1+1) (by omega),Yh (x:=t.e2+1) (by omega),Yh (x:=t.e3+1) (by omega)];rw [Yh (x:=1 * (t.e0+1)) (by omega),Yh (x:=2 * (t.e1+1)) (by omega),Yh (x:=3 * (t.e2+1)) (by omega),Yh (x:=4 * (t.e3+1)) (by omega)];rw [Yh (x:=0+1 * (t.e0+1)) (by omega),Yh (x:=0+1 * (t.e0+1)+2 * (t.e1+1)) (by omega),Yh (x:=0+1 * (t.e0+1)+2 * (t.e1+1)+3 * (t.e2+1)) (by omega),Yh (by omega)];congr 1;omega
 rw [e,Int.tmod_eq_emod_of_nonneg (by omega)]
end Go.Gw

end
