/- Laws of the walk. Condition: each theorem says its own. -/
import Derived.Test.YteplgmnnkdpmeaaGreatDoorGwAwakeLock
set_option linter.unusedVariables false
set_option linter.unusedSimpArgs false
set_option linter.unusedSectionVars false
section
set_option maxRecDepth 4096
namespace Go.Gw
open Go
attribute [local irreducible] loop
theorem Qlc (l:List Int) (v:Int) (hl:l.length < 1000000):Qdx l v=some (decide (v∈l)):=by
 unfold Qdx;rw [Y4 l (fun x=>decide (x=v)) (fun _ _=>true),Qp]
 ·rcases ZW (p:=fun x=>decide (x=v)) (res:=fun _ _=>true) l 0 with ⟨k1,k2⟩ | ⟨j,x,k1,k2,k3⟩
  ·rw [k1,<-Qwf,k2];rfl
  ·rw [k1,<-Qwf,k3];rfl
 ·intro k hk;unfold Qpx;rw [XZ hk,XD hk,XX k (by omega)];rfl
 ·unfold Qpx;rw [X3];rfl
theorem QQq (l:List ByteArray) (s:ByteArray) (hl:l.length < 1000000):Qnu l s=some (Qay (fun x=>decide (x=s)) l):=by
 unfold Qnu Qay;rw [Y4 l (fun x=>decide (x=s)) (fun k _=>(k:Int)),Qp,Qel]
 ·intro k hk;unfold Qtl;rw [XZ hk,XD hk,XX k (by omega)];rfl
 ·unfold Qtl;rw [X3];rfl
theorem Qzh (l:List ByteArray) (s:ByteArray):(l.any fun x=>decide (x=s))=Zl l s:=by
 unfold Zl;congr 1;funext x;exact decide_eq_decide.2 eq_comm
theorem Qzi {α:Type} (f:α->ByteArray) (l:List α) (s:ByteArray):(l.any fun x=>decide (f x=s))=Zl (l.map f) s:=by
 rw [<-Qzh,List.any_map];rfl
theorem QBc (l:List ByteArray) (hl:l.length < 1000):Qiw l=some (match XM (Zt l) l.length with | some i=>((i:Int),Zt l i) | none=>(0,0)):=by
 unfold Qiw;have key:loop (Qiv l) 0=_:=Qak (step:=Qiv l) (fun k=>(k:Int)) l.length (Zt l) (fun i e=>((i:Int),e)) () (fun k hk _=>by
  have hs:Zt l k=ZP l[k] (l.take k):=Z3 _ _ _ hk;rw [hs];unfold Qiv ZP;rw [XZ hk,cond_true,XD hk,Qp,Qpw,Qp];cases Qaz l[k]
  ·rfl
  ·simp only [Bool.not_true,cond_false,Qp,cond_true];rw [Qct (by omega),Qp,QQq _ _ (by simp;omega),Qp,Qre,Qzh,XX k (by omega)];cases Zl (l.take k) l[k]<;>rfl) (fun _=>by
  unfold Qiv;rw [X3];rfl)
 rw [key,Qp];cases XM (Zt l) l.length<;>rfl
theorem Qul {α ρ:Type} {step:Int->Option (Int⊕(ρ⊕Unit))} (xs:List α) (n:Nat) (hn:n<=xs.length) (p:α->Bool) (c:ρ)
  (hs:∀ k (hk:k < xs.length),k < n->step (k:Int)=(bif p xs[k] then some (.inr (.inl c)) else some (.inl ((k+1:Nat):Int))))
  (he:step (n:Int)=some (.inr (.inr ()))):loop step 0=some (if (xs.take n).any p=true then .inl c else .inr ()):=by
 have hlen:(xs.take n).length=n:=by simp;omega
 rw [Y4 (xs.take n) p (fun _ _=>c) (fun k hk=>by
  rw [hlen] at hk;rw [hs k (by omega) hk];simp only [List.getElem_take]) (by rw [hlen];exact he)]
 rcases ZW (p:=p) (res:=fun _ _=>c) (xs.take n) 0 with ⟨k1,k2⟩ | ⟨j,x,k1,k2,k3⟩
 ·rw [k1,k2];rfl
 ·rw [k1,k3];rfl
theorem QSb {p:Ng} (h:PlantS p) (k:Nat) (hk:k < p.Nb.length):Qoc p k=some (ZS p k):=by
 have h1:=h.sw;have h2:=h.se;have hs:ZS p k=swE p k p.Nb[k]:=Z3 _ _ _ hk;have l0:loop (Qoa p.Nb[k] (k:Int) p) 0=some (if (p.Nb.take k).any (fun o=>decide (o.Name=p.Nb[k].Name))=true then .inl 5 else .inr ()) :=
  Qul p.Nb k (by omega) _ _ (fun j hj hjk=>by
   unfold Qoa;rw [XZ hjk,cond_true,XD hj,Qp,XX j (by omega)]) (by
   unfold Qoa;rw [X3];rfl)
 have l1:loop (Qob p.Nb[k] (k:Int) p) 0=some (if (p.Nb.take k).any (fun o=>decide (o.Nn=p.Nb[k].Nn))=true then .inl 26 else .inr ()) :=
  Qul p.Nb k (by omega) _ _ (fun j hj hjk=>by
   unfold Qob;rw [XZ hjk,cond_true,XD hj,Qp,XX j (by omega)]) (by
   unfold Qob;rw [X3];rfl)
 rw [hs];unfold Qoc swE swX ZP;rw [XD hk,Qp,Qpw,Qp,l0,l1,Qzi (fun o:Nu=>o.Name),show ZY p.Nb[k].Nn 0 (w64 ((p.Nd.length:Int) - 1))=some (YD p p.Nb[k].Nn) by rw [Qby,Y8 (by omega)];rfl];cases Qaz p.Nb[k].Name
 ·rfl
 ·cases Zl ((p.Nb.take k).map (·.Name)) p.Nb[k].Name
  ·cases YD p p.Nb[k].Nn
   ·rfl
   ·cases (p.Nb.take k).any (fun o=>decide (o.Nn=p.Nb[k].Nn))<;>rfl
  ·rfl
theorem Qtc (n:Int):ZY n 0 1=some (Y1 n):=by
 rw [Qby];congr 1;unfold Y1;rw [Bool.eq_iff_iff];simp only [Bool.and_eq_true,Bool.or_eq_true,decide_eq_true_eq];omega
theorem QRy {p:Ng} (h:PlantS p) (k:Nat) (hk:k < p.Nj.length):Qny p k=some (ZQ p k):=by
 have h1:=h.ro;have h2:=h.se;have h3:=h.sw;obtain ⟨_,hr,hn⟩:=h.rn _ (List.getElem_mem hk);have hs:ZQ p k=rtE p k p.Nj[k]:=Z3 _ _ _ hk;have l0:loop (Qnv p.Nj[k] p (k:Int)) 0=some (if (p.Nj.take k).any (fun o=>decide (o.Name=p.Nj[k].Name))=true then .inl 5 else .inr ()) :=
  Qul p.Nj k (by omega) _ _ (fun j hj hjk=>by
   unfold Qnv;rw [XZ hjk,cond_true,XD hj,Qp,XX j (by omega)]) (by
   unfold Qnv;rw [X3];rfl)
 rw [hs];unfold Qny rtE;rw [XD hk,Qp,Qpw,Qp,l0,Qzi (fun o:Np=>o.Name)];generalize p.Nj[k]=r at hr hn ⊢;have l1:loop (Qnw r p) 0=some (match XM (JM p r) r.Nd.length with | some i=>.inl (JM p r i) | none=>.inr ()) :=
  Qak (fun k=>(k:Int)) r.Nd.length (JM p r) (fun _ e=>e) () (fun k hk _=>by
   have hs:JM p r k=rsE p r k r.Nd[k]:=Z3 _ _ _ hk;rw [hs];unfold Qnw rsE;rw [XZ hk,cond_true,XD hk,Qp,show ZY r.Nd[k] 0 (w64 ((p.Nd.length:Int) - 1))=some (YD p r.Nd[k]) by rw [Qby,Y8 (by omega)];rfl,Qp,Qct (by omega),Qp,Qp,Qlc _ _ (by simp;omega),Qp,XX k (by omega)];cases YD p r.Nd[k]<;>cases decide (r.Nd[k]∈r.Nd.take k)<;>rfl) (fun _=>by
   unfold Qnw;rw [X3];rfl)
 have l2:r.Nq.length=p.Nb.length->loop (Qnx r p) 0=some (Yo (J3 r) (fun _ _=>(2:Int)) 0 (r.Nq.zip p.Nb)):=fun he =>
  Y4 (r.Nq.zip p.Nb) _ _ (fun k hk=>by
   rw [Qpl he] at hk;unfold Qnx;rw [XZ hk,cond_true,XD (show k < p.Nb.length by omega),Qp,Qlc _ _ (by omega),Qp,XD hk,XX k (by omega)];simp only [List.getElem_zip,J3,Qp,Qtc];cases decide (p.Nb[k].Nn∈r.Nd)<;>rfl) (by
   rw [Qpl he];unfold Qnx;rw [X3];rfl)
 unfold ZP;cases Qaz r.Name
 ·rfl
 ·cases Zl ((p.Nj.take k).map (·.Name)) r.Name
  ·simp only [Bool.not_true,cond_false,cond_true,Qp,Xp,if_true,Bool.false_eq_true,if_false];unfold rtX;by_cases h4:r.Nd.length < 2
   ·rw [if_pos h4,decide_eq_true (show (r.Nd.length:Int) < 2 by omega)];rfl
   rw [if_neg h4,decide_eq_false (show ¬ (r.Nd.length:Int) < 2 by omega)];by_cases h5:p.Nd.length < r.Nd.length
   ·rw [if_pos h5,decide_eq_true (show (p.Nd.length:Int) < r.Nd.length by omega)];rfl
   rw [if_neg h5,decide_eq_false (show ¬ (p.Nd.length:Int) < r.Nd.length by omega),l1];simp only [cond_false,Qp];cases XM (JM p r) r.Nd.length with
   | some i=>rfl
   | none =>
    simp only [Xp];by_cases h6:r.Nq.length=p.Nb.length
    ·rw [if_pos h6,decide_eq_true (show (r.Nq.length:Int)=p.Nb.length by omega),Bool.not_true,cond_false,l2 h6,Qp];rcases ZW (p:=J3 r) (res:=fun _ _=>(2:Int)) (r.Nq.zip p.Nb) 0 with ⟨k1,k2⟩ | ⟨j,x,k1,k2,k3⟩
     ·rw [k1,k2];rfl
     ·rw [k1,k3];rfl
    ·rw [if_neg h6,decide_eq_false (show ¬ (r.Nq.length:Int)=p.Nb.length by omega)];rfl
  ·rfl
theorem QRs {p:Ng} (h:PlantS p):Qnf p=some (JK p):=by
  have h3:=h.sw;have h4:=h.ro;have l0:loop (Qnd p) 0=some (match XM (ZS p) p.Nb.length with | some i=>.inl (Ns.mk 3 i,ZS p i) | none=>.inr ()) :=
    Qak (fun k=>(k:Int)) p.Nb.length (ZS p) (fun i e=>(Ns.mk 3 i,e)) () (fun k hk _=>by
      unfold Qnd;rw [XZ hk,cond_true,QSb h k hk,Qp,XX k (by omega)];by_cases h1:ZS p k=0
      · rw [if_pos h1,decide_eq_true h1];rfl
      · rw [if_neg h1,decide_eq_false h1];rfl) (fun _=>by
      unfold Qnd;rw [X3];rfl)
  have l1:loop (Qne p) 0=some (match XM (ZQ p) p.Nj.length with | some i=>.inl (Ns.mk 4 i,ZQ p i) | none=>.inr ()) :=
    Qak (fun k=>(k:Int)) p.Nj.length (ZQ p) (fun i e=>(Ns.mk 4 i,e)) () (fun k hk _=>by
      unfold Qne;rw [XZ hk,cond_true,QRy h k hk,Qp,XX k (by omega)];by_cases h1:ZQ p k=0
      · rw [if_pos h1,decide_eq_true h1];rfl
      · rw [if_neg h1,decide_eq_false h1];rfl) (fun _=>by
      unfold Qne;rw [X3];rfl)
  unfold Qnf JK;by_cases h1:p.Nd.length=0\/p.Na.length=0
  · rw [if_pos h1, show (decide ((p.Nd.length : Int) = 0) || decide ((p.Na.length : Int) = 0)) = true by
      simp only [Bool.or_eq_true,decide_eq_true_eq];omega]
    rfl
  rw [if_neg h1,decide_eq_false (show ¬ (p.Nd.length:Int)=0 by omega),decide_eq_false (show ¬ (p.Na.length:Int)=0 by omega)];simp only [Bool.or_self,cond_false];by_cases h2:8 < p.Nd.length\/3 < p.Na.length\/4 < p.Nb.length\/10 < p.Nj.length
  · rw [if_pos h2, show (((decide (8 < (p.Nd.length : Int)) || decide (3 < (p.Na.length : Int))) || decide (4 < (p.Nb.length : Int))) || decide (10 < (p.Nj.length : Int))) = true by
      simp only [Bool.or_eq_true,decide_eq_true_eq];omega]
    rfl
  rw [if_neg h2, show (((decide (8 < (p.Nd.length : Int)) || decide (3 < (p.Na.length : Int))) || decide (4 < (p.Nb.length : Int))) || decide (10 < (p.Nj.length : Int))) = false by
      rw [decide_eq_false (by omega),decide_eq_false (by omega),decide_eq_false (by omega),decide_eq_false (by omega)];rfl]
  rw [cond_false,QBc _ h.se,QBc _ h.tr,l0,l1];have hz:∀ {f:Nat->Int} {n i:Nat},XM f n=some i->f i≠0:=fun hf=>(Qah hf).2.1
  cases h3:XM (Zt p.Nd) p.Nd.length with
  | some i=>simp [hz h3]
  | none =>
    simp only [Qp,decide_true,Bool.not_true,cond_false];cases h4:XM (Zt p.Na) p.Na.length with
    | some i=>simp [hz h4]
    | none =>
      simp only [decide_true,Bool.not_true,cond_false];cases h5:XM (ZS p) p.Nb.length with
      | some i=>rfl
      | none =>
        simp only [Xp];cases h6:XM (ZQ p) p.Nj.length with
        | some i=>rfl
        | none=>rfl
theorem QRw {p:Ng} (h:PlantS p):Qni p=some (JK p).2:=by
 unfold Qni;rw [QRs h];rfl
/-! ### Copies -/
theorem Qeb (l:List Int) (h:l.length < 1000000):Qav l=some l:=by
 unfold Qav;rw [Qad (by simp;omega)];rfl
theorem Qwx (l:List ByteArray) (h:l.length < 1000000):Qhf l=some l:=by
 unfold Qhf;rw [Qad (by simp;omega)];rfl
theorem Qjt {α:Type} (l:List α) (k:Nat) (hk:k < l.length):l.take k++[l[k]]=l.take (k+1):=by
 have:=Qus l id k hk;simp
theorem QGn {p:Ng} (h:PlantS p):Qng p=some p:=by
 have h1:=h.se;have h2:=h.tr;have h3:=h.sw;have h4:=h.ro;have hl:=Qif (step:=Qio p) (o:=p.Nj) (fun k=>((k:Int),p.Nj.take k)) p.Nj.length (fun k hk=>by
  obtain ⟨_,hr,hn⟩:=h.rn _ (List.getElem_mem hk);unfold Qio;simp only [XZ hk,cond_true,XD hk,Qp];rw [Qeb _ (by omega),Qp,Qeb _ (by omega),Qp,Qad (by simp;omega),Qp,XX k (by omega),Qjt _ _ hk]) (by
  unfold Qio;simp only [X3,List.take_length];rfl)
 have hl2:loop (Qio p) (0,([]:List Np))=some p.Nj:=hl;unfold Qng;rw [Qwx _ (by omega),Qp,Qwx _ (by omega),Qp,Qad (by simp;omega),Qp,Qp];simp only [List.nil_append];rw [hl2];rfl
theorem Qqj {x:Nf} (h:StateS x):Qdd x=some x:=by
 have h1:=h.sw;have h2:=h.tr;have hl:=Qif (step:=Qip x) (o:=x.Na) (fun k=>((k:Int),x.Na.take k)) x.Na.length (fun k hk=>by
  unfold Qip;simp only [XZ hk,cond_true,XD hk,Qp];rw [Qeb _ (by have:=h.ch _ (List.getElem_mem hk);omega),Qp,Qad (by simp;omega),Qp,XX k (by omega)];show some (Sum.inl (_,x.Na.take k++[x.Na[k]]))=_;rw [Qjt _ _ hk]) (by
  unfold Qip;simp only [X3,List.take_length];rfl)
 have hl2:loop (Qip x) (0,([]:List Nl))=some x.Na:=hl;unfold Qdd;rw [Qeb _ (by omega),Qp,Qp];simp only;rw [hl2];rfl
/-! ### Equal ones -/
theorem Qyc (a b:List Int) (ha:a.length < 1000000):Qhg a b=some (decide (a=b)):=by
 unfold Qhg;by_cases hl:a.length=b.length
 ·rw [decide_eq_true (by omega),Bool.not_true,cond_false,Y4 (a.zip b) (fun x=>!decide (x.1=x.2)) (fun _ _=>false),Qp,Qqr a b hl]
  ·intro k hk;rw [Qpk hl] at hk;unfold Qpy;rw [XZ hk,cond_true,XD hk,Qp,XD (show k < b.length by omega),Qp,XX k (by omega)];simp only [List.getElem_zip]
  ·rw [Qpk hl];unfold Qpy;rw [X3];rfl
 ·rw [decide_eq_false (by omega)];simp only [Bool.not_false,cond_true];rw [decide_eq_false];intro e;exact hl (by rw [e])
theorem QTy {x:Nf} (h:StateS x) (y:Nf):Qgf x y=some (decide (x=y)):=by
  have h1:=h.sw;have h2:=h.tr;cases x with
  | mk sw tr c =>
  cases y with
  | mk sw2 tr2 c2 =>
  simp only at h1 h2;unfold Qgf;simp only [Qyc sw sw2 (by omega),Qp,Nf.mk.injEq];by_cases e1:sw=sw2
  · by_cases e2:c=c2
    · by_cases hl:tr.length=tr2.length
      · rw [decide_eq_true e1,decide_eq_true e2,decide_eq_true (show (tr.length:Int)=tr2.length by omega)];simp only [Bool.not_true,Bool.or_self,cond_false];have key:loop (Qnk ⟨sw,tr,c⟩ ⟨sw2,tr2,c2⟩) 0=_:=Y4 (tr.zip tr2) (fun x=>!decide (x.1=x.2)) (fun _ _=>false) (fun k hk=>by
          rw [Qpk hl] at hk;unfold Qnk;simp only [XZ hk,cond_true,XD hk,Qp,XD (show k < tr2.length by omega)];rw [Qyc _ _ (by have:(tr[k]).Nc.length < 1000:=h.ch _ (List.getElem_mem hk);omega),Qp,XX k (by omega)];simp only [List.getElem_zip];cases h3:tr[k] with
          | mk ch un =>
          cases h4:tr2[k]'(by omega) with
          | mk ch2 un2 =>
          simp only [Nl.mk.injEq];by_cases e3:ch=ch2
          · by_cases e4:un=un2
            · simp [e3,e4]
            · simp [e3,e4]
          · simp [e3]) (by
          rw [Qpk hl];unfold Qnk;simp only [X3];rfl)
        rw [key,Qp,Qqr tr tr2 hl];simp [e1,e2]
      · rw [decide_eq_false (show ¬ (tr.length:Int)=tr2.length by omega)];have:tr≠tr2:=fun e=>hl (by rw [e])
        simp [this]
    · simp [e2]
  · simp [e1]
/-! ### The Qyj -/
theorem QJf (p:Ng):Qfo p=some true/\PlantS p/\(p.Nd.length<=4\/8 < p.Nd.length)\/Qfo p=some false:=by
 unfold Qfo;cases hb:(((((decide (4 < (p.Nd.length:Int))&&decide ((p.Nd.length:Int)<=8))||decide (10 < (p.Nd.length:Int)))||decide (5 < (p.Na.length:Int)))||decide (6 < (p.Nb.length:Int)))||decide (12 < (p.Nj.length:Int))) with
 | true=>exact .inr rfl
 | false =>
  rw [cond_false];simp only [Bool.or_eq_false_iff,Bool.and_eq_false_iff,decide_eq_false_iff_not] at hb;have h1:p.Nd.length < 1000:=by omega
  have h2:p.Na.length < 1000:=by omega
  have h3:p.Nb.length < 1000:=by omega
  have h4:p.Nj.length < 1000:=by omega
  have l0:loop (Qlj p) 0=some (Yo (fun s:ByteArray=>decide (20 < (s.size:Int))) (fun _ _=>false) 0 p.Nd):=Y4 p.Nd _ _ (fun k hk=>by
   unfold Qlj;rw [XZ hk,cond_true,XD hk,Qp,XX k (by omega)]) (by unfold Qlj;rw [X3];rfl)
  have l1:loop (Qlk p) 0=some (Yo (fun s:ByteArray=>decide (20 < (s.size:Int))) (fun _ _=>false) 0 p.Na):=Y4 p.Na _ _ (fun k hk=>by
   unfold Qlk;rw [XZ hk,cond_true,XD hk,Qp,XX k (by omega)]) (by unfold Qlk;rw [X3];rfl)
  have l2:loop (Qll p) 0=some (Yo (fun s:Nu=>decide (20 < (s.Name.size:Int))) (fun _ _=>false) 0 p.Nb):=Y4 p.Nb _ _ (fun k hk=>by
   unfold Qll;rw [XZ hk,cond_true,XD hk,Qp,XX k (by omega)]) (by unfold Qll;rw [X3];rfl)
  have l3:loop (Qlm p) 0=some (Yo (fun r:Np=>decide (20 < (r.Name.size:Int))||(decide (10 < (r.Nd.length:Int))||decide (6 < (r.Nq.length:Int)))) (fun _ _=>false) 0 p.Nj):=Y4 p.Nj _ _ (fun k hk=>by
   unfold Qlm;simp only [XZ hk,cond_true,XD hk,Qp,XX k (show k < 4611686018427387904 by omega)];cases decide (20 < (p.Nj[k].Name.size:Int))<;>cases decide (10 < (p.Nj[k].Nd.length:Int))<;>cases decide (6 < (p.Nj[k].Nq.length:Int))<;>rfl) (by unfold Qlm;rw [X3];rfl)
  rw [l0,l1,l2,l3];simp only [Qp];rcases ZW (p:=fun s:ByteArray=>decide (20 < (s.size:Int))) (res:=fun _ _=>false) p.Nd 0 with ⟨k1,k2⟩ | ⟨j,x,k1,k2,k3⟩
  ·rw [k1];rcases ZW (p:=fun s:ByteArray=>decide (20 < (s.size:Int))) (res:=fun _ _=>false) p.Na 0 with ⟨m1,m2⟩ | ⟨j,x,m1,m2,m3⟩
   ·rw [m1];rcases ZW (p:=fun s:Nu=>decide (20 < (s.Name.size:Int))) (res:=fun _ _=>false) p.Nb 0 with ⟨n1,n2⟩ | ⟨j,x,n1,n2,n3⟩
    ·rw [n1];rcases ZW (p:=fun r:Np=>decide (20 < (r.Name.size:Int))||(decide (10 < (r.Nd.length:Int))||decide (6 < (r.Nq.length:Int)))) (res:=fun _ _=>false) p.Nj 0 with ⟨o1,o2⟩ | ⟨j,x,o1,o2,o3⟩
     ·rw [o1];rw [List.any_eq_false] at k2 m2 n2 o2;refine .inl ⟨rfl,⟨h1,h2,h3,h4,fun s hs=>?_,fun s hs=>?_,fun s hs=>?_,fun r hr=>?_⟩,by omega⟩
      ·have:=k2 s hs;simp at this;omega
      ·have:=m2 s hs;simp at this;omega
      ·have:=n2 s hs;simp at this;omega
      ·have:=o2 r hr;simp at this;omega
     ·rw [o1];exact .inr rfl
    ·rw [n1];exact .inr rfl
   ·rw [m1];exact .inr rfl
  ·rw [k1];exact .inr rfl
theorem QJg (x:Nf):Qfp x=some true/\StateS x\/Qfp x=some false:=by
 unfold Qfp;cases hb:(decide (6 < (x.Nb.length:Int))||decide (5 < (x.Na.length:Int))) with
 | true=>exact .inr rfl
 | false =>
  rw [cond_false];simp only [Bool.or_eq_false_iff,decide_eq_false_iff_not] at hb;have l0:loop (Qln x) 0=some (Yo (fun t:Nl=>decide (10 < (t.Nc.length:Int))) (fun _ _=>false) 0 x.Na):=Y4 x.Na _ _ (fun k hk=>by
   unfold Qln;rw [XZ hk,cond_true,XD hk,Qp,XX k (by omega)]) (by unfold Qln;rw [X3];rfl)
  rw [l0,Qp];rcases ZW (p:=fun t:Nl=>decide (10 < (t.Nc.length:Int))) (res:=fun _ _=>false) x.Na 0 with ⟨k1,k2⟩ | ⟨j,y,k1,k2,k3⟩
  ·rw [k1];rw [List.any_eq_false] at k2;refine .inl ⟨rfl,by omega,by omega,fun t ht=>?_⟩;have:=k2 t ht;simp at this;omega
  ·rw [k1];exact .inr rfl
end Go.Gw

end
section
set_option maxRecDepth 4096
namespace Go.Gw
open Go
attribute [local irreducible] loop
theorem Qtf {x:Nf} (h:StateS x) (s:Int):Qge x s=some (X8 x s):=by
 have h1:=h.tr;unfold Qge X8 Qay;rw [Y4 x.Na (fun t=>decide (s∈t.Nc)) (fun k _=>(k:Int)),Qp,Qel]
 ·intro k hk;unfold Qti;rw [XZ hk,cond_true,XD hk,Qp,Qlc _ _ (by have:=h.ch _ (List.getElem_mem hk);omega),Qp,XX k (by omega)]
 ·unfold Qti;rw [X3];rfl
theorem QBd {p:Ng} (h:PlantS p) (n:Int):Qiq p n=some (bif YD p n then 0 else 6):=by
 have:=h.se;unfold Qiq;rw [Qby,Y8 (by omega),Qp];show (bif !(YD p n) then _ else _)=_;cases YD p n<;>rfl
theorem QSc {p:Ng} (h:PlantS p) (n:Int):Qnp p n=some (bif Qao p n then 0 else 6):=by
 have:=h.tr;unfold Qnp;rw [Qby,Y8 (by omega),Qp];show (bif !(Qao p n) then _ else _)=_;cases Qao p n<;>rfl
theorem QRt {p:Ng} (h:PlantS p) (e:Nm):Qnh p e=some (ZL p e):=by
  have h1:=h.sw;have h2:=h.ro;unfold Qnh ZL;rw [Qby,Qp];by_cases hk:0<=e.Kind/\e.Kind<=6
  · rw [if_neg (by omega),show (decide (0<=e.Kind)&&decide (e.Kind<=6))=true by simp [hk.1,hk.2]];simp only [Bool.not_true,cond_false];by_cases h2:e.Kind=2
    · rw [if_pos h2,decide_eq_true h2,cond_true,Qby,Y8 (by omega),Qp,Qtc];show (bif !(Qen p e.A) then _ else _)=_;cases Qen p e.A<;>cases Y1 e.B<;>rfl
    · rw [if_neg h2,decide_eq_false h2,cond_false,QSc h,Qp,QBd h,Qp,Qby,Y8 (by omega),Qp];cases Qao p e.A
      · rfl
      simp only [cond_true,decide_true,Bool.not_true,cond_false];by_cases h0:e.Kind=0
      · rw [if_pos h0,decide_eq_true h0];rfl
      · rw [if_neg h0,decide_eq_false h0,cond_false];by_cases h1:e.Kind=1
        · rw [if_pos h1,decide_eq_true h1,cond_true];show (bif !(Qej p e.B) then _ else _)=_;cases Qej p e.B<;>rfl
        · rw [if_neg h1,decide_eq_false h1,cond_false];by_cases h3:e.B=0
          · rw [if_pos h3,decide_eq_true h3];rfl
          · rw [if_neg h3,decide_eq_false h3];rfl
  · rw [if_pos hk, show (decide (0 <= e.Kind) && decide (e.Kind <= 6)) = false by
      rw [Bool.and_eq_false_iff,decide_eq_false_iff_not,decide_eq_false_iff_not];omega]
    rfl
/-! ### Which section leads to which -/
theorem Qxl {α:Type} (g:α->Bool):∀ (l:List α) (k:Nat) (b:Bool),fld (fun (_:Nat) (a:Bool) (x:α)=>a&&!(g x)) k b l=(b&&!(l.any g))
 | [],k,b=>by simp [fld]
 | x::l,k,b=>by
  unfold fld;rw [Qxl g l];simp only [List.any_cons];cases b<;>cases g x<;>simp
theorem QRv {p:Ng} {x:Nf} {r:Np} {a b:Int} (h1:r.Nq.length=p.Nb.length) (h2:x.Nb.length=p.Nb.length) (h3:p.Nb.length < 1000):loop (Qiu r p x b a) (true,0)=some (YN p x.Nb r [a,b]):=by
 have hlen:(p.Nb.zip (r.Nq.zip x.Nb)).length=p.Nb.length:=by simp [h1,h2]
 have:=(Qzd (step:=Qiu r p x b a) (p.Nb.zip (r.Nq.zip x.Nb)) (fun _ (c:Bool) q=>c&&!(Qec [a,b] q)) (fun c k=>(c,(k:Int))) (fun c=>c) (fun _ _=>True) true trivial (fun k hk c _=>by
  rw [hlen] at hk;refine ⟨?_,trivial⟩;unfold Qiu;simp only [XZ hk,cond_true,XD hk,Qp,XX k (show k < 4611686018427387904 by omega),XD (show k < r.Nq.length by omega),XD (show k < x.Nb.length by omega),List.getElem_zip,Qec];generalize hs:p.Nb[k].Nn=s;by_cases ha:s=a
  ·subst ha;cases c
   ·simp
   ·by_cases hn:x.Nb[k]=r.Nq[k]
    ·simp [hn]
    ·simp [hn,Ne.symm hn]
  ·by_cases hb:s=b
   ·subst hb;cases c
    ·simp [ha,hs]
    ·by_cases hn:x.Nb[k]=r.Nq[k]
     ·simp [hn,ha,hs]
     ·simp [hn,Ne.symm hn,ha,hs]
   ·cases c<;>simp [ha,hb,hs]) (fun c _=>by
  rw [hlen];unfold Qiu;simp only [X3];rfl)).1
 rw [Qxl,Bool.true_and] at this;exact this
theorem QRu {p:Ng} (hp:PlantOk p) {x:Nf} (h2:x.Nb.length=p.Nb.length) (a b:Int):Qnt p x a b=some (J2 p x.Nb a b):=by
 have hw4:=hp.w4;have hr10:=hp.r10;have hs8:=hp.s8;unfold Qnt J2;have inner:∀ r∈p.Nj,loop (Qns r p x b a) 0=some (if (Z8 r a b&&YN p x.Nb r [a,b])=true then .inl (.inr (.inl true)) else .inr ()):=fun r hr=>by
  have hr2:=hp.r2 r hr;have hr8:=hp.r8 r hr;have hlen:(r.Nd.zip (r.Nd.drop 1)).length=r.Nd.length - 1:=by simp
  rw [Y4 (r.Nd.zip (r.Nd.drop 1)) (fun q=>(decide (q.1=a)&&decide (q.2=b))&&YN p x.Nb r [a,b]) (fun _ _=>Sum.inr (.inl true)) (fun k hk=>by
   rw [hlen] at hk;unfold Qns;rw [XX k (by omega),XZ (show k+1 < r.Nd.length by omega),cond_true,XD (show k < r.Nd.length by omega),Qp,XD (show k+1 < r.Nd.length by omega),QRv (hp.rn r hr) h2 (by omega)];simp only [List.getElem_zip,List.getElem_drop,Qp];have e:r.Nd[1+k]'(by omega)=r.Nd[k+1]'(by omega) := by congr 1;omega
   rw [e];generalize YN p x.Nb r [a,b]=lb;by_cases h3:r.Nd[k]=a
   ·by_cases h4:r.Nd[k+1]=b
    ·cases lb<;>simp [h3,h4]
    ·cases lb<;>simp [h3,h4]
   ·cases lb<;>simp [h3]) (by
   rw [hlen];unfold Qns;rw [XX _ (by omega),show r.Nd.length - 1+1=r.Nd.length by omega,X3];rfl)]
  have ea:(r.Nd.zip (r.Nd.drop 1)).any (fun q=>(decide (q.1=a)&&decide (q.2=b))&&YN p x.Nb r [a,b])=(Z8 r a b&&YN p x.Nb r [a,b]):=by
   unfold Z8;cases YN p x.Nb r [a,b]<;>simp
  rcases ZW (p:=fun q:Int×Int=>(decide (q.1=a)&&decide (q.2=b))&&YN p x.Nb r [a,b]) (res:=fun _ _=>(Sum.inr (.inl true):Int⊕(Bool⊕Unit))) (r.Nd.zip (r.Nd.drop 1)) 0 with ⟨k1,k2⟩ | ⟨j,y,k1,k2,k3⟩
  ·rw [k1,<-ea,k2];rfl
  ·rw [k1,<-ea,k3];rfl
 rw [Y4 p.Nj (fun r=>Z8 r a b&&YN p x.Nb r [a,b]) (fun _ _=>true),Qp]
 ·rcases ZW (p:=fun r=>Z8 r a b&&YN p x.Nb r [a,b]) (res:=fun _ _=>true) p.Nj 0 with ⟨k1,k2⟩ | ⟨j,y,k1,k2,k3⟩
  ·rw [k1,k2];rfl
  ·rw [k1,k3];rfl
 ·intro k hk;unfold Qtk;rw [XZ hk,cond_true,XD hk,Qp,inner _ (List.getElem_mem hk),XX k (by omega)];cases (Z8 p.Nj[k] a b&&YN p x.Nb p.Nj[k] [a,b])<;>rfl
 ·unfold Qtk;rw [X3];rfl
/-! ### Which states are right -/
theorem QNg {x:Nf} {n:Nat} {s:Int}:decide (s∈(x.Na.take n).flatMap (·.Nc))=(x.Na.take n).any fun o=>decide (s∈o.Nc):=by
 rw [Bool.eq_iff_iff,decide_eq_true_eq,List.any_eq_true,List.mem_flatMap];simp only [decide_eq_true_eq]
theorem QBa {p:Ng} (hS:PlantS p) (hp:PlantOk p) {x:Nf} (h:StateS x) (h2:x.Nb.length=p.Nb.length) (n:Nat) (hn:n < x.Na.length) (hf:((x.Na.take n).flatMap (·.Nc)).length<=1000 * n) :
    loop (Qir x.Na[n] p x) ((x.Na.take n).flatMap (·.Nc),0)=some (match XM (Jq p x n x.Na[n]) x.Na[n].Nc.length with | some k=>.inl (.inr (.inl (Jq p x n x.Na[n] k))) | none=>.inr ((x.Na.take (n+1)).flatMap (·.Nc))):=by
  have hc:=h.ch _ (List.getElem_mem hn);have hl:=h.tr;have e1:(x.Na.take (n+1)).flatMap (·.Nc)=(x.Na.take n).flatMap (·.Nc)++x.Na[n].Nc:=by
    rw [<-Qjt _ _ hn,List.flatMap_append];simp
  rw [e1];generalize hF:(x.Na.take n).flatMap (·.Nc)=F at hf ⊢;have hm:∀ s,decide (s∈F)=(x.Na.take n).any fun o=>decide (s∈o.Nc):=fun s=>by rw [<-hF];exact QNg
  have:=Qak (step:=Qir x.Na[n] p x) (fun k=>(F++x.Na[n].Nc.take k,(k:Int))) x.Na[n].Nc.length (Jq p x n x.Na[n]) (fun _ e=>(.inr (.inl e):((List Int)×Int)⊕(Int⊕Unit))) (F++x.Na[n].Nc) (fun k hk _=>by
    have hs:Jq p x n x.Na[n] k=chE p x n x.Na[n] k x.Na[n].Nc[k]:=Z3 _ _ _ hk;rw [hs];unfold Qir chE;simp only [XZ hk,cond_true,XD hk,Qp,QBd hS];rw [Qlc _ _ (by simp;omega),Qp,Qad (by simp;omega),Qp,XX k (by omega),List.append_assoc,Qjt _ _ hk,
      show decide (x.Na[n].Nc[k]∈F++x.Na[n].Nc.take k)=(decide (x.Na[n].Nc[k]∈x.Na[n].Nc.take k)||(x.Na.take n).any fun o=>decide (x.Na[n].Nc[k]∈o.Nc)) by
        rw [<-hm,Bool.eq_iff_iff];simp [or_comm]]
    cases YD p x.Na[n].Nc[k]
    · rfl
    cases (decide (x.Na[n].Nc[k]∈x.Na[n].Nc.take k)||(x.Na.take n).any fun o=>decide (x.Na[n].Nc[k]∈o.Nc))
    · simp only [cond_true,decide_true,Bool.not_true,cond_false];by_cases hk0:k=0
      · subst hk0;rfl
      · rw [decide_eq_true (show (0:Int) < (k:Int) by omega),show w64 ((k:Int) - 1)=((k - 1:Nat):Int) by rw [Y8 (by omega)];omega];simp only [cond_true,XD (show k - 1 < x.Na[n].Nc.length by omega),Qp,QRu hp h2,if_neg hk0,List.getElem?_eq_getElem (show k - 1 < x.Na[n].Nc.length by omega),Option.getD_some];cases J2 p x.Nb x.Na[n].Nc[k - 1] x.Na[n].Nc[k]<;>rfl
    · rfl) (fun _=>by
    unfold Qir;simp only [X3,List.take_length];rfl)
  simp only [List.take_zero,List.append_nil,Int.natCast_zero] at this;exact this
theorem QRz {p:Ng} (hS:PlantS p) (hp:PlantOk p) {x:Nf} (h:StateS x):Qnm p x=some (Qgn p x):=by
  have h1:=h.sw;have h2:=h.tr;have hw4:=hp.w4;have ht3:=hp.t3;unfold Qnm Qgn;by_cases hl:x.Nb.length=p.Nb.length/\x.Na.length=p.Na.length
  · rw [if_pos hl,decide_eq_true (show (x.Nb.length:Int)=p.Nb.length by omega),decide_eq_true (show (x.Na.length:Int)=p.Na.length by omega)];simp only [Bool.not_true,Bool.or_self,cond_false];rw [Y4 x.Nb (fun n=>!(Y1 n)) (fun _ _=>2) (fun k hk=>by
      unfold Qtj;rw [XZ hk,cond_true,XD hk,Qp,Qtc,Qp,XX k (by omega)]) (by
      unfold Qtj;rw [X3];rfl),Qp]
    have ea:x.Nb.any (fun n=>!(Y1 n))=!(x.Nb.all Y1):=by
      rw [List.all_eq_not_any_not,Bool.not_not]
    rcases ZW (p:=fun n=>!(Y1 n)) (res:=fun _ _=>(2:Int)) x.Nb 0 with ⟨k1,k2⟩ | ⟨j,y,k1,k2,k3⟩
    · rw [k1];rw [ea,Bool.not_eq_false'] at k2;rw [k2,Bool.true_and];simp only [Xp];rw [show Qnr x.Nh=some (Xz x.Nh) from rfl,Qp];cases Xz x.Nh
      · rfl
      · simp only [Bool.not_true,cond_false,cond_true];have:=Qak (step:=Qnl p x) (fun n=>((x.Na.take n).flatMap (·.Nc),(n:Int))) x.Na.length (JP p x) (fun _ e=>e) () (fun n hn _=>by
          have hs:JP p x n=tsE p x n x.Na[n]:=Z3 _ _ _ hn;have hf:∀ m,m<=x.Na.length->((x.Na.take m).flatMap (·.Nc)).length<=1000 * m:=fun m=>by
            induction m with
            | zero=>intro _;simp
            | succ m ih =>
              intro hm;rw [<-Qjt _ _ (show m < x.Na.length by omega),List.flatMap_append,List.length_append];have:=ih (by omega);have:=h.ch _ (List.getElem_mem (show m < x.Na.length by omega));rw [show ([x.Na[m]]:List Nl).flatMap (·.Nc)=x.Na[m].Nc by simp];omega
          have hc:=h.ch _ (List.getElem_mem hn);rw [hs];unfold Qnl tsE;simp only [XZ hn,cond_true,XD hn,Qp,Qby];have eu:(((decide ((x.Na[n].Nc.length:Int)=0))&&(!decide (x.Na[n].Nk=0)))||((decide (0 < (x.Na[n].Nc.length:Int)))&&(!(decide (1<=x.Na[n].Nk)&&decide (x.Na[n].Nk<=(x.Na[n].Nc.length:Int))))))=!(J9 x.Na[n]):=by
            unfold J9;by_cases h0:x.Na[n].Nc.length=0
            · rw [if_pos h0,decide_eq_true (show (x.Na[n].Nc.length:Int)=0 by omega),decide_eq_false (show ¬ (0:Int) < x.Na[n].Nc.length by omega)];simp
            · rw [if_neg h0,decide_eq_false (show ¬ (x.Na[n].Nc.length:Int)=0 by omega),decide_eq_true (show (0:Int) < x.Na[n].Nc.length by omega)];simp
          by_cases h0:x.Na[n].Nc.length=0
          · have g1:decide ((x.Na[n].Nc.length:Int)=0)=true:=decide_eq_true (by omega);have g2:decide ((0:Int) < x.Na[n].Nc.length)=false:=decide_eq_false (by omega);rw [g1,g2] at eu ⊢;simp only [Bool.and_false,cond_false,Qp,Bool.false_and,Bool.or_false] at eu ⊢;rw [eu];cases J9 x.Na[n]
            · rfl
            · simp only [Bool.not_true,cond_false,cond_true];rw [QBa hS hp h hl.1 n hn (hf n (by omega)),Qp];cases hfe:XM (Jq p x n x.Na[n]) x.Na[n].Nc.length with
              | some k=>rw [if_neg (Qah hfe).2.1];rfl
              | none=>rw [if_pos rfl];simp only [Xp];rw [XX n (by omega)]
          · have g1:decide ((x.Na[n].Nc.length:Int)=0)=false:=decide_eq_false (by omega);have g2:decide ((0:Int) < x.Na[n].Nc.length)=true:=decide_eq_true (by omega);rw [g1,g2] at eu ⊢;simp only [Bool.false_and,Bool.not_false,Bool.and_true,cond_true,Qp] at eu ⊢;rw [eu];cases J9 x.Na[n]
            · rfl
            · simp only [Bool.not_true,cond_false,cond_true];rw [QBa hS hp h hl.1 n hn (hf n (by omega)),Qp];cases hfe:XM (Jq p x n x.Na[n]) x.Na[n].Nc.length with
              | some k=>rw [if_neg (Qah hfe).2.1];rfl
              | none=>rw [if_pos rfl];simp only [Xp];rw [XX n (by omega)]) (fun _=>by
          unfold Qnl;simp only [X3];rfl)
        simp only [List.take_zero,List.flatMap_nil,Int.natCast_zero] at this;rw [this,Qp];cases XM (JP p x) x.Na.length<;>rfl
    · rw [k1];rw [ea,Bool.not_eq_true'] at k3;rw [k3];rfl
  · rw [if_neg hl, show (!decide ((x.Nb.length : Int) = p.Nb.length) || !decide ((x.Na.length : Int) = p.Na.length)) = true by
      simp only [Bool.or_eq_true,Bool.not_eq_true',decide_eq_false_iff_not];omega]
    rfl
end Go.Gw

end
section
set_option maxRecDepth 4096
namespace Go.Gw
open Go
attribute [local irreducible] loop
theorem QMu {α ρ:Type} {step:Int->Option (Int⊕(ρ⊕Unit))} (xs:List α) (p:α->Bool) (c:ρ) (h1:1<=xs.length)
  (hs:∀ k (hk:k < xs.length),1<=k->step (k:Int)=(bif p xs[k] then some (.inr (.inl c)) else some (.inl ((k+1:Nat):Int))))
  (he:step (xs.length:Int)=some (.inr (.inr ()))):loop step 1=some (if (xs.drop 1).any p=true then .inl c else .inr ()):=by
 have key:∀ j k,1<=k->j+k=xs.length->loop step (k:Int)=some (if (xs.drop k).any p=true then .inl c else .inr ()):=by
  intro j
  induction j with
  | zero =>
   intro k _ hk;obtain rfl:k=xs.length:=by omega
   rw [List.drop_length];exact Qcz he
  | succ j ih =>
   intro k hk1 hk;have hlt:k < xs.length:=by omega
   rw [List.drop_eq_getElem_cons hlt,List.any_cons];have:=hs k hlt hk1;cases hp:p xs[k] with
   | true=>rw [hp] at this;exact Qcz this
   | false=>rw [hp] at this;rw [Qcy this,Bool.false_or];exact ih (k+1) (by omega) (by omega)
 exact key (xs.length - 1) 1 (by omega) (by omega)
def Qcs (q:Int×Int):Bool:=!decide (q.1=-1)&&!decide (q.1=q.2)
theorem QGd {p:Ng} {r:Np} {sw:List Int} (h1:r.Nq.length=p.Nb.length) (h2:sw.length=p.Nb.length) (hx:(r.Nq.zip p.Nb).any (J3 r)=false):(r.Nq.zip sw).any Qcs=!(YN p sw r r.Nd):=by
 rw [List.any_eq_false] at hx;have hn:∀ k (hk:k < p.Nb.length),(p.Nb[k].Nn∈r.Nd->r.Nq[k]≠-1)/\(p.Nb[k].Nn∉r.Nd->r.Nq[k]=-1):=fun k hk=>by
  have:=hx (r.Nq[k],p.Nb[k]) (List.mem_iff_getElem.2 ⟨k,by simp;omega,by simp⟩);unfold J3 at this;by_cases hm:p.Nb[k].Nn∈r.Nd
  ·simp [hm] at this;exact ⟨fun _=>by omega,fun h=>absurd hm h⟩
  ·simp [hm] at this;exact ⟨fun h=>absurd h hm,fun _=>this⟩
 cases hl:YN p sw r r.Nd with
 | true =>
  rw [Bool.not_true,List.any_eq_false];intro q hq;obtain ⟨k,hk,rfl⟩:=List.getElem_of_mem hq;simp only [List.length_zip] at hk;simp only [List.getElem_zip,Qcs,Bool.and_eq_true,Bool.not_eq_true',decide_eq_false_iff_not,not_and,Decidable.not_not];intro hne;by_cases hm:p.Nb[k].Nn∈r.Nd
  ·exact liesB_iff.1 hl k (by omega) (by omega) (by omega) hm
  ·exact absurd ((hn k (by omega)).2 hm) hne
 | false =>
  rw [Bool.not_false];cases ha:(r.Nq.zip sw).any Qcs with
  | true=>rfl
  | false =>
   rw [List.any_eq_false] at ha;have:YN p sw r r.Nd=true:=liesB_iff.2 fun k k1 k2 k3 hm=>by
    have:=ha (r.Nq[k],sw[k]) (List.mem_iff_getElem.2 ⟨k,by simp;omega,by simp⟩);simp only [Qcs,Bool.and_eq_true,Bool.not_eq_true',decide_eq_false_iff_not,not_and,Decidable.not_not] at this;exact this ((hn k k1).1 hm)
   rw [this] at hl;cases hl
theorem QJy {α:Type} {xs:List α} (h:0 < xs.length):idx xs 0=some xs[0]:=XD (k:=0) h
theorem QSa {p:Ng} (hp:PlantOk p) {x:Nf} (h:StateOk p x) {e:Nm} (he:ZL p e=0):Qno p x e=some (if Ji p x e=0 then (ZF p x e,0) else (x,Ji p x e)):=by
  have hs:=h.s hp;have hw4:=hp.w4;have ht3:=hp.t3;have hkd:=Qho he;have hsl:=h.sw;have htl:=h.tr;unfold Qno;by_cases h2:e.Kind=2
  · obtain ⟨a0,a1,a2⟩:=Qqu he h2;have e1:Ji p x e=(bif Zm x (Qem p e).Nn then 17 else 0):=by unfold Ji;rw [if_pos h2]
    have e2:ZF p x e=⟨x.Nb.set e.A.toNat e.B,x.Na,x.Nh⟩:=by unfold ZF;rw [if_pos h2]
    rw [e1,e2,Qur a1,decide_eq_true h2,cond_true,Qqj hs,Qp,Qca a0 a1,Qp,Qtf hs,Qp,Qlg];cases Zm x p.Nb[e.A.toNat].Nn with
    | true=>rfl
    | false =>
      simp only [cond_false];rw [Qca a0 (by omega),Qp];rfl
  obtain ⟨a0,a1,a2,a3,a4⟩:=Qqt he h2;have ha:e.A.toNat < x.Na.length:=by omega
  have htm:ZH x e∈x.Na:=by rw [Qgs ha];exact List.getElem_mem ha
  have hcl:=h.len htm;have hs8:=hp.s8;have hu:=h.un _ htm;have e2:ZF p x e=⟨x.Nb,x.Na.set e.A.toNat (trX p (ZH x e) e),x.Nh⟩:=by unfold ZF;rw [if_neg h2]
  rw [e2,decide_eq_false h2,cond_false,Qqj hs,Qp];have hix:∀ {α:Type} (f:Nl->Option α),Option.bind (idx x.Na e.A) f=f (ZH x e):=fun f=>by rw [Qca a0 ha,Qp,Qgs ha]
  rw [hix];simp only [hix];unfold Ji trX;simp only [if_neg h2];generalize ZH x e=t at *
  by_cases h0:e.Kind=0
  · simp only [if_pos h0,decide_eq_true h0,cond_true];by_cases hc:t.Nc.length=0
    · rw [if_pos hc,decide_eq_false (show ¬ (0:Int) < t.Nc.length by omega),cond_false,Qtf hs,Qp,Qlg];cases Zm x e.B<;>rfl
    · rw [if_neg hc,decide_eq_true (show (0:Int) < t.Nc.length by omega)];rfl
  simp only [if_neg h0,decide_eq_false h0,cond_false];by_cases hc:t.Nc.length=0
  · rw [decide_eq_true (show (t.Nc.length:Int)=0 by omega),if_pos hc];rfl
  rw [decide_eq_false (show ¬ (t.Nc.length:Int)=0 by omega),cond_false,if_neg hc];have hu2:1<=t.Nk/\t.Nk<=t.Nc.length:=by
    rcases hu with ⟨h3,_⟩ | h3
    · rw [h3] at hc;exact absurd rfl hc
    · exact h3
  by_cases h1:e.Kind=1
  · simp only [if_pos h1,decide_eq_true h1,cond_true];obtain ⟨b0,b1⟩:=a3 h1;rw [Qca b0 b1,Qp,<-Qiy b1];have hr:J7 p e∈p.Nj:=by rw [Qiy b1];exact List.getElem_mem b1
    generalize J7 p e=r at *
    have hr2:=hp.r2 r hr;have hr8:=hp.r8 r hr;have hrn:=hp.rn r hr;have hrx:=hp.rx r hr;rw [QJy (show 0 < r.Nd.length by omega),Qp,
      show w64 ((t.Nc.length:Int) - 1)=((t.Nc.length - 1:Nat):Int) by rw [Y8 (by omega)];omega,XD (show t.Nc.length - 1 < t.Nc.length by omega),Qp,Qxu (by omega) (by omega)]
    by_cases h3:r.Nd.head?=t.Nc.getLast?
    · rw [if_pos h3,decide_eq_true h3,Bool.not_true,cond_false];have l0:loop (Qnn r x x) 1=some (if (r.Nd.drop 1).any (Zm x)=true then .inl (.inl (x,17)) else .inr ()) :=
        QMu r.Nd (Zm x) _ (by omega) (fun k hk _=>by
          unfold Qnn;rw [XZ hk,cond_true,XD hk,Qp,Qtf hs,Qp,Qlg,XX k (by omega)]) (by
          unfold Qnn;rw [X3];rfl)
      have hlen:(r.Nq.zip x.Nb).length=r.Nq.length:=by simp [hrn,hsl]
      have l1:loop (Qis r x x) 0=some (if (r.Nq.zip x.Nb).any Qcs=true then .inl (.inl (x,13)) else .inr ()):=by
        rw [Y4 (step:=Qis r x x) (r.Nq.zip x.Nb) Qcs (fun _ _=>.inl (x,13)) (fun k hk=>by
          rw [hlen] at hk;unfold Qis;rw [XZ hk,cond_true,XD hk,Qp,XD (show k < x.Nb.length by omega),XX k (by omega)];simp only [List.getElem_zip,Qcs];cases decide (r.Nq[k]=-1)<;>rfl) (by
          rw [hlen];unfold Qis;rw [X3];rfl)]
        rcases ZW (p:=Qcs) (res:=fun _ _=>(.inl (x,13):(Nf×Int)⊕((List Int)×Int))) (r.Nq.zip x.Nb) 0 with ⟨k1,k2⟩ | ⟨j,y,k1,k2,k3⟩
        · rw [k1,k2];rfl
        · rw [k1,k3];rfl
      rw [l0,l1,QGd hrn hsl hrx];cases hb:(r.Nd.drop 1).any (Zm x) with
      | true=>rfl
      | false =>
        cases hl:YN p x.Nb r r.Nd with
        | false=>rfl
        | true =>
          simp only [Bool.not_true,Bool.false_eq_true,if_false,Qp,Xp,cond_false,cond_true,if_true];rw [Qku (by omega),Qp,Qeb _ (by omega),Qp,Qad (by simp;omega)];rfl
    · rw [if_neg h3,decide_eq_false h3];rfl
  simp only [if_neg h1,decide_eq_false h1,cond_false];by_cases h3:e.Kind=3
  · simp only [if_pos h3,decide_eq_true h3,cond_true];rw [if_neg (show ¬ e.Kind=4 by omega),if_pos (show e.Kind=3\/e.Kind=5 from .inl h3),Y8 (by omega)];by_cases h5:t.Nk < t.Nc.length
    · rw [if_pos h5,decide_eq_false (show ¬ t.Nk=t.Nc.length by omega)];rfl
    · rw [if_neg h5,decide_eq_true (show t.Nk=t.Nc.length by omega)];rfl
  simp only [if_neg h3,decide_eq_false h3,cond_false];by_cases h4:e.Kind=4
  · simp only [if_pos h4,decide_eq_true h4,cond_true];rw [Y8 (by omega)];by_cases h5:1 < t.Nk
    · rw [if_pos h5,decide_eq_false (show ¬ t.Nk=1 by omega),cond_false,Qku (by omega),Qp,Qeb _ (by simp;omega)];rfl
    · rw [if_neg h5,decide_eq_true (show t.Nk=1 by omega)];rfl
  simp only [if_neg h4,decide_eq_false h4,cond_false];by_cases h5:e.Kind=5
  · simp only [if_pos h5,decide_eq_true h5,cond_true];rw [if_pos (show e.Kind=3\/e.Kind=5 from .inr h5)];by_cases h6:t.Nk < t.Nc.length
    · rw [if_pos h6,decide_eq_false (show ¬ t.Nk=t.Nc.length by omega),cond_false,show w64 ((t.Nc.length:Int) - 1)=((t.Nc.length - 1:Nat):Int) by rw [Y8 (by omega)];omega,Qct (by omega),Qp,Qeb _ (by simp;omega)];rfl
    · rw [if_neg h6,decide_eq_true (show t.Nk=t.Nc.length by omega)];rfl
  simp only [if_neg h5,decide_eq_false h5,cond_false];rw [if_neg (show ¬ (e.Kind=3\/e.Kind=5) by omega),decide_eq_true (show e.Kind=6 by omega),cond_true];by_cases h6:t.Nc.length=1
  · rw [if_pos h6,decide_eq_false (show ¬ (1:Int) < t.Nc.length by omega)];rfl
  · rw [if_neg h6,decide_eq_true (show (1:Int) < t.Nc.length by omega)];rfl
theorem QRr {p:Ng} (hS:PlantS p) (hp:PlantOk p) {x:Nf} (h:StateOk p x) (e:Nm):Qnc p x e=some (if Jf p x e=0 then (ZF p x e,0) else (x,Jf p x e)):=by
 unfold Qnc Jf;rw [QRt hS,Qp];by_cases h1:ZL p e=0
 ·rw [if_pos h1,decide_eq_true h1,Bool.not_true,cond_false,QSa hp h h1,Qp]
 ·rw [if_neg h1,decide_eq_false h1,if_neg h1];rfl
/-! ### All events -/
/-! ### What lies in a list and meets a test -/
end Go.Gw

end
section
set_option maxRecDepth 4096
namespace Go.Gw
open Go
attribute [local irreducible] loop
theorem QCr {α:Type} {p:α->Bool}:∀ (l:List α) (m:Nat),(Yo p (fun k _=>(k:Int)) m l=.inr ()/\l.any p=false)\/∃ j,∃ h:j < l.length,Yo p (fun k _=>(k:Int)) m l=.inl ((m+j:Nat):Int)/\p l[j]=true
 | [],m=>.inl ⟨rfl,rfl⟩
 | x::l,m=>by
  by_cases hp:p x=true
  ·exact .inr ⟨0,by simp,by simp [Yo,hp],by simpa using hp⟩
  ·rcases QCr (p:=p) l (m+1) with ⟨h1,h2⟩ | ⟨j,hj,h1,h2⟩
   ·exact .inl ⟨by simp [Yo,hp,h1],by simp [hp,h2]⟩
   ·exact .inr ⟨j+1,by simpa using hj,by simp only [Yo,hp];rw [h1];simp;omega,by simpa using h2⟩
theorem QKg {α:Type} (p:α->Bool) (l:List α):(Qay p l=-1/\l.any p=false)\/∃ j,∃ h:j < l.length,Qay p l=(j:Int)/\p l[j]=true:=by
 unfold Qay;rcases QCr (p:=p) l 0 with ⟨h1,h2⟩ | ⟨j,hj,h1,h2⟩
 ·exact .inl ⟨by rw [h1],h2⟩
 ·exact .inr ⟨j,hj,by rw [h1];simp,h2⟩
theorem QAi {α:Type} {l:List α} (h:l.Nodup) {i j:Nat} (hi:i < l.length) (hj:j < l.length) (e:l[i]=l[j]):i=j:=by
 unfold List.Nodup at h;rw [List.pairwise_iff_getElem] at h;rcases Nat.lt_trichotomy i j with h1 | h1 | h1
 ·exact absurd e (h i j hi hj h1)
 ·exact h1
 ·exact absurd e.symm (h j i hj hi h1)
theorem QKk {p:Ng} (hp:PlantOk p) {x:Nf} (h2:x.Nb.length=p.Nb.length) (a b:Int):Qmc (some ⟨p,x⟩) a b=some (J2 p x.Nb a b):=by
  have hw4:=hp.w4;have hr10:=hp.r10;have hs8:=hp.s8;unfold Qmc J2;rw [Qp,Y4 p.Nj (fun r=>Z8 r a b&&YN p x.Nb r [a,b]) (fun _ _=>true),Qp]
  · rcases ZW (p:=fun r=>Z8 r a b&&YN p x.Nb r [a,b]) (res:=fun _ _=>true) p.Nj 0 with ⟨k1,k2⟩ | ⟨j,y,k1,k2,k3⟩
    · rw [k1,k2];rfl
    · rw [k1,k3];rfl
  · intro k hk;have hr:=List.getElem_mem hk;unfold Qsb;simp only [XZ hk,cond_true,XD hk,Qp];generalize p.Nj[k]=r at hr ⊢;have hr2:=hp.r2 r hr;have hr8:=hp.r8 r hr;have hrd:=hp.rd r hr;rw [Qyd _ _ (by omega),Qp,Qyi (hp.rn r hr) h2 (by omega) (by simp),XX k (by omega)];rcases QKg (fun x=>decide (a=x)) r.Nd with ⟨h3,h4⟩ | ⟨j,hj,h3,h4⟩
    · rw [h3];have h5:Z8 r a b=false:=by
        cases hb:Z8 r a b with
        | false=>rfl
        | true =>
          obtain ⟨j,hj,h6,_⟩:=pairB_iff.1 hb;rw [Qwe,decide_eq_false_iff_not] at h4;exact absurd (h6▸List.getElem_mem _) h4
      rw [h5];rfl
    · rw [h3];have h4:a=r.Nd[j]:=by simpa using h4
      rw [decide_eq_true (show (0:Int)<=(j:Int) by omega),XX j (by omega)];by_cases h5:j+1 < r.Nd.length
      · rw [XZ h5];simp only [Bool.and_self,cond_true];rw [XD h5,Qp];have h6:Z8 r a b=decide (r.Nd[j+1]=b):=by
          rw [Bool.eq_iff_iff,pairB_iff,decide_eq_true_eq];constructor
          · rintro ⟨i,hi,h7,h8⟩;have:i=j:=QAi hrd (by omega) hj (h7.trans h4);subst this;exact h8
          · intro h7;exact ⟨j,h5,h4.symm,h7⟩
        rw [h6];cases decide (r.Nd[j+1]=b)<;>rfl
      · rw [decide_eq_false (show ¬ ((j+1:Nat):Int) < r.Nd.length by omega)];have h6:Z8 r a b=false:=by
          cases hb:Z8 r a b with
          | false=>rfl
          | true =>
            obtain ⟨i,hi,h7,_⟩:=pairB_iff.1 hb;have:i=j:=QAi hrd (by omega) hj (h7.trans h4);omega
        rw [h6];rfl
  · unfold Qsb;simp only [X3];rfl
theorem Qxm {α:Type} (g:α->Bool):∀ (l:List α) (k:Nat) (b:Bool),fld (fun (_:Nat) (a:Bool) (x:α)=>a||g x) k b l=(b||l.any g)
 | [],k,b=>by simp [fld]
 | x::l,k,b=>by
  unfold fld;rw [Qxm g l];simp [Bool.or_assoc]
theorem QFv (l:List Nl) (h:∀ t∈l,t.Nc.length < 1000) (hl:l.length < 1000) (s:Int) (b:Bool):loop (Qhv s l) (b,0)=some (b||l.any fun o=>decide (s∈o.Nc)):=by
 have:=(Qzd (step:=Qhv s l) l (fun _ (c:Bool) o=>c||decide (s∈o.Nc)) (fun c k=>(c,(k:Int))) (fun c=>c) (fun _ _=>True) b trivial (fun k hk c _=>by
  refine ⟨?_,trivial⟩;unfold Qhv;simp only [XZ hk,cond_true,XD hk,Qp,XX k (show k < 4611686018427387904 by omega),Qff _ _ (show l[k].Nc.length < 1000000 by have:=h _ (List.getElem_mem hk);omega)];cases c<;>rfl) (fun c _=>by
  unfold Qhv;simp only [X3];rfl)).1
 rw [Qxm] at this;exact this
theorem QXa (t:Nl):JE t.Nk (if (t.Nc.length:Int) < 1 then (t.Nc.length:Int) else 1) (t.Nc.length:Int)=some (J9 t):=by
 rw [Qvk];congr 1;unfold J9;by_cases h0:t.Nc.length=0
 ·rw [if_pos h0,if_pos (show (t.Nc.length:Int) < 1 by omega),Bool.eq_iff_iff];simp only [Bool.and_eq_true,decide_eq_true_eq];omega
 ·rw [if_neg h0,if_neg (show ¬ (t.Nc.length:Int) < 1 by omega)]
theorem QKj {p:Ng} (hS:PlantS p) (hp:PlantOk p) {x:Nf} (h:StateS x) (h2:x.Nb.length=p.Nb.length) (n:Nat) (hn:n < x.Na.length):Qma (some ⟨p,x⟩) (n:Int)=some (JP p x n):=by
  have hs:JP p x n=tsE p x n x.Na[n]:=Z3 _ _ _ hn;have hc:=h.ch _ (List.getElem_mem hn);have hl:=h.tr;rw [hs];unfold Qma tsE;simp only [Qp,XD hn];rw [QXa,Qp];cases J9 x.Na[n]
  · rfl
  simp only [Bool.not_true,cond_false,cond_true];have key:loop (Qlz x.Na[n] (some ⟨p,x⟩) (n:Int)) 0=some (match XM (Jq p x n x.Na[n]) x.Na[n].Nc.length with | some i=>.inl (Jq p x n x.Na[n] i) | none=>.inr ()) :=
    Qak (fun k=>(k:Int)) x.Na[n].Nc.length (Jq p x n x.Na[n]) (fun _ e=>e) () (fun k hk _=>by
      have hs:Jq p x n x.Na[n] k=chE p x n x.Na[n] k x.Na[n].Nc[k]:=Z3 _ _ _ hk;rw [hs];unfold Qlz chE;simp only [XZ hk,cond_true,XD hk,Qp];rw [Qct (by omega),Qp,Qff _ _ (by simp;omega),Qp,Qct (by omega),Qp,
        QFv _ (fun t ht=>h.ch t (List.mem_of_mem_take ht)) (by simp;omega),Qp,QCd hS,Qp,YF,Qp,XX k (by omega)]
      generalize (decide (x.Na[n].Nc[k]∈x.Na[n].Nc.take k)||(x.Na.take n).any fun o=>decide (x.Na[n].Nc[k]∈o.Nc))=bb;by_cases hk0:k=0
      · subst hk0;simp only [Int.natCast_zero,decide_true,Bool.not_true,cond_false,Qp,Bool.true_or,if_true,YF,cond_true];rw [ZM _ (by simp),Qp,Qfl];cases YD p x.Na[n].Nc[0]<;>cases bb<;>rfl
      · rw [decide_eq_false (show ¬ (k : Int) = 0 by omega), show w64 ((k : Int) - 1) = ((k - 1 : Nat) : Int) by rw [Y8 (by omega)]; omega,
          show (if (0:Int) < ((k - 1:Nat):Int) then ((k - 1:Nat):Int) else 0)=((k - 1:Nat):Int) by split<;>omega]
        simp only [Bool.not_false,cond_true,XD (show k - 1 < x.Na[n].Nc.length by omega),Qp,QKk hp h2,if_neg hk0,List.getElem?_eq_getElem (show k - 1 < x.Na[n].Nc.length by omega),Option.getD_some,Bool.false_or,YF];rw [ZM _ (by simp),Qp,Qfl];cases YD p x.Na[n].Nc[k]<;>cases bb<;>cases J2 p x.Nb x.Na[n].Nc[k - 1] x.Na[n].Nc[k]<;>rfl) (fun _=>by
      unfold Qlz;simp only [X3];rfl)
  rw [key,Qp];cases XM (Jq p x n x.Na[n]) x.Na[n].Nc.length<;>rfl
theorem QRl (l:List Int) (hl:l.length < 1000):Qoo l=some (!(l.all Y1)):=by
 unfold Qoo Quh;rw [Y4 l (fun n=>!(Y1 n)) (fun k _=>(k:Int)),Qp,Qel,Qp,Qjm]
 ·rw [List.all_eq_not_any_not,Bool.not_not]
 ·intro k hk;unfold Qug;rw [XZ hk,XD hk,XX k (by omega)];rfl
 ·unfold Qug;rw [X3];rfl
def JI (p:Ng) (x:Nf):Int:=if (JK p).2=0 then Qgn p x else (JK p).2
theorem QAq {p:Ng} (hS:PlantS p) {x:Nf} (h:StateS x):Qid p x=some (if JI p x=0 then (some ⟨p,x⟩,0) else (none,JI p x)):=by
  have h1:=h.sw;have h2:=h.tr;have h3:=hS.sw;have h4:=hS.tr;unfold Qid JI;rw [QRl _ (by omega),Qp,QRk hS,Qp,YF,Qp,Bool.not_not];by_cases hp0:(JK p).2=0
  · have hp:=Qtb hp0;simp only [if_pos hp0,hp0];unfold Qgn;by_cases hl:x.Nb.length=p.Nb.length/\x.Na.length=p.Na.length
    · rw [if_pos hl,decide_eq_true (show (x.Nb.length:Int)=p.Nb.length by omega),decide_eq_true (show (x.Na.length:Int)=p.Na.length by omega)];have e1:∀ (f:Bool->Option (Option Nr×Int)),(Option.bind (bif x.Nb.all Y1 then Qcc x.Nh else some default) f)=f (bif x.Nb.all Y1 then Xz x.Nh else default):=fun f=>by
        cases x.Nb.all Y1<;>rfl
      rw [e1,YF,Qp,ZM _ (by simp),Qp,Qfl];cases ha:x.Nb.all Y1
      · rfl
      · cases hb:Xz x.Nh
        · rfl
        · simp only [Bool.and_self,cond_true,ne_eq,not_true_eq_false,if_false,decide_true,Bool.not_true,cond_false];have key:loop (Qmh p x) 0=some (match XM (JP p x) x.Na.length with | some i=>.inl (none,JP p x i) | none=>.inr ()) :=
            Qak (fun k=>(k:Int)) x.Na.length (JP p x) (fun _ e=>(none,e)) () (fun k hk _=>by
              unfold Qmh;rw [XZ hk,cond_true,QKj hS hp h hl.1 k hk,Qp,XX k (by omega)];by_cases h5:JP p x k=0
              · rw [if_pos h5,decide_eq_true h5];rfl
              · rw [if_neg h5,decide_eq_false h5];rfl) (fun _=>by
              unfold Qmh;rw [X3];rfl)
          rw [key,Qp];cases hf:XM (JP p x) x.Na.length with
          | some i =>
            have h5:=(Qah hf).2.1;simp [Xp,h5]
          | none=>rfl
    · rw [if_neg hl, show (decide ((x.Nb.length : Int) = p.Nb.length) && decide ((x.Na.length : Int) = p.Na.length)) = false by
        rw [Bool.and_eq_false_iff,decide_eq_false_iff_not,decide_eq_false_iff_not];omega]
      have e1:∀ (f:Bool->Option (Option Nr×Int)),(Option.bind (bif x.Nb.all Y1 then Qcc x.Nh else some default) f)=f (bif x.Nb.all Y1 then Xz x.Nh else default):=fun f=>by
        cases x.Nb.all Y1<;>rfl
      rw [e1,YF,Qp,ZM _ (by simp),Qp,Qfl];rfl
  · simp only [if_neg hp0];have e1:∀ (f:Bool->Option (Option Nr×Int)),(Option.bind (bif x.Nb.all Y1 then Qcc x.Nh else some default) f)=f (bif x.Nb.all Y1 then Xz x.Nh else default):=fun f=>by
      cases x.Nb.all Y1<;>rfl
    rw [e1,YF,Qp,ZM _ (by simp),Qp,Qfl,if_pos hp0,decide_eq_false hp0];rfl
theorem QAr {p:Ng} {x:Nf} (h:JI p x=0):PlantOk p/\StateOk p x/\(JK p).2=0:=by
 unfold JI at h;by_cases hp0:(JK p).2=0
 ·rw [if_pos hp0] at h;exact ⟨Qtb hp0,state_iff.1 h,hp0⟩
 ·rw [if_neg hp0] at h;exact absurd h hp0
def Qpv (p:Ng) (x:Nf) (e:Nm):Nf×Int:=if JI p x=0 then (if Jf p x e=0 then (ZF p x e,0) else (Qar,Jf p x e)) else (Qar,JI p x)
theorem QKi {p:Ng} (hS:PlantS p) {x:Nf} (h:StateS x) (e:Nm):Qlq p x e=some (Qpv p x e):=by
 unfold Qlq Qpv;rw [QAq hS h,Qp];by_cases h0:JI p x=0
 ·obtain ⟨hp,hx,_⟩:=QAr h0;simp only [if_pos h0,decide_true,cond_true];rw [QHq hS,Qp,Qp];unfold Jf;by_cases h1:ZL p e=0
  ·obtain ⟨r,hr,h2,h3⟩:=QFk hp hx h1;simp only [if_pos h1,decide_eq_true h1,cond_true];rw [hr,Qp,Qp,h2];by_cases h4:Ji p x e=0
   ·rw [if_pos h4,h3 h4,decide_eq_true h4];simp only [Bool.not_true,cond_false];rw [QWw p ((QCu hp hx h1 h4).s hp)];rfl
   ·rw [if_neg h4,decide_eq_false h4];rfl
  ·simp only [if_neg h1,decide_eq_false h1,cond_false,Qp,Bool.not_false,cond_true];rfl
 ·simp only [if_neg h0,decide_eq_false h0,cond_false,Qp,Bool.not_false,cond_true];rfl
/-! ### Telegrams -/
theorem Qwl (t:Ni):Ni.mk t.e0 t.e1 t.e2 t.e3 t.e4=t:=rfl
theorem QDv {a b c t:Ni} (h:Qbf a b c=some t):XV t=0:=by
 unfold Qbf at h;by_cases h0:XV a=0/\(a=b\/a=c)
 ·rw [if_pos h0] at h;cases h;exact h0.1
 rw [if_neg h0] at h;by_cases h1:XV b=0/\(b=a\/b=c)
 ·rw [if_pos h1] at h;cases h;exact h1.1
 rw [if_neg h1] at h;by_cases h2:XV c=0/\(c=a\/c=b)
 ·rw [if_pos h2] at h;cases h;exact h2.1
 rw [if_neg h2] at h;cases h
def Qam (p:Ng) (x:Nf) (l:Ny):Nf×Int:=match Qbf l.e0 l.e1 l.e2 with
 | none=>(Qar,12)
 | some t=>if t.e3=x.Nh then (if Jf p x ⟨t.e0,t.e1,t.e2⟩=0 then (⟨(ZF p x ⟨t.e0,t.e1,t.e2⟩).Nb,(ZF p x ⟨t.e0,t.e1,t.e2⟩).Na,Int.tmod (t.e3+1) 251⟩,0) else (Qar,Jf p x ⟨t.e0,t.e1,t.e2⟩)) else (Qar,9)
theorem QDp {t:Ni} (h:XV t=0):Xz t.e3=true:=by
 unfold XV at h;cases hb:Xz t.e3 with
 | true=>rfl
 | false=>rw [hb] at h;simp at h
theorem QDy {n:Int} (h:Xz n=true):w64 (n+1)=n+1:=by
 unfold Xz at h;simp at h;exact Y8 (by omega)
theorem QKl {p:Ng} (hS:PlantS p) {x:Nf} (h:StateS x) (l:Ny):Qlx p x l=some (if JI p x=0 then Qam p x l else (Qar,JI p x)):=by
 unfold Qlx;rw [QAq hS h,Qp];by_cases h0:JI p x=0
 ·simp only [if_pos h0,decide_true,Bool.not_true,cond_false];rw [QXj,Qp];unfold Qvi Qam;cases hv:Qbf l.e0 l.e1 l.e2 with
  | none=>rfl
  | some t =>
   have ht:=QDv hv;simp only [decide_true,Bool.not_true,cond_false,Qwl];rw [QHt,Qp];unfold evt;rw [if_pos ht];simp only;by_cases h1:t.e3=x.Nh
   ·rw [if_pos h1,decide_eq_true h1,Bool.not_true,cond_false,QKi hS h,Qp];unfold Qpv;rw [if_pos h0,QDy (QDp ht)];by_cases h2:Jf p x ⟨t.e0,t.e1,t.e2⟩=0
    ·simp only [if_pos h2,decide_true,Bool.not_true,cond_false]
    ·simp only [if_neg h2,decide_eq_false h2,Bool.not_false,cond_true];rfl
   ·rw [if_neg h1,decide_eq_false h1];rfl
 ·simp only [if_neg h0,decide_eq_false h0,Bool.not_false,cond_true];rfl
theorem QRx {p:Ng} (hS:PlantS p) (hp:PlantOk p) {x:Nf} (h:StateOk p x) (l:Ny):Qnj p x l=some (if (Qam p x l).2=0 then Qam p x l else (x,(Qam p x l).2)):=by
 unfold Qnj;rw [QTx,Qp];unfold Qtv Qam;cases hv:Qbf l.e0 l.e1 l.e2 with
 | none=>rfl
 | some t =>
  have ht:=QDv hv;simp only [Bool.not_true,cond_false,Qwl];rw [QBb,Qp];unfold evt;rw [if_pos ht];simp only;by_cases h1:t.e3=x.Nh
  ·rw [if_pos h1,decide_eq_true h1,Bool.not_true,cond_false,QRr hS hp h,Qp];by_cases h2:Jf p x ⟨t.e0,t.e1,t.e2⟩=0
   ·simp only [if_pos h2,decide_true,Bool.not_true,cond_false,if_true];have hc:(ZF p x ⟨t.e0,t.e1,t.e2⟩).Nh=x.Nh:=by unfold ZF;split<;>rfl
    rw [hc,<-h1,QDy (QDp ht)]
   ·simp only [if_neg h2,decide_eq_false h2,Bool.not_false,cond_true]
  ·rw [if_neg h1,decide_eq_false h1];rfl
end Go.Gw

end
section
set_option maxRecDepth 4096
namespace Go.Gw
open Go
attribute [local irreducible] loop
theorem Qum (x:Nf):Nf.mk x.Nb x.Na x.Nh=x:=rfl
theorem Qke:StateS Qar:=⟨by simp [Qar],by simp [Qar],fun t ht=>by simp [Qar] at ht⟩
theorem QEi:(Nf.mk ([]:List Int) ([]:List Nl) 0)=Qar:=rfl
theorem Qtw {x:Nf} (h:StateS x):Qgf x x=some true:=by rw [QTy h,decide_eq_true rfl]
theorem QFu {p:Ng} (hS:PlantS p) {x:Nf} (h:StateS x):Qlo p x=some (JI p x):=by
 unfold Qlo JI;rw [QRw hS,Qp];by_cases h0:(JK p).2=0
 ·rw [if_pos h0,decide_eq_true h0,Bool.not_true,cond_false,QRz hS (Qtb h0) h];rfl
 ·rw [if_neg h0,decide_eq_false h0];rfl
theorem Qyj {p:Ng} {x:Nf} {F:Bool->Bool->Option Bool} (h0:∀ b,F false b=some true) (h1:F true false=some true) (h2:PlantS p->StateS x->(p.Nd.length<=4\/8 < p.Nd.length)->F true true=some true) :
  (Option.bind (Qfo p) fun r=>Option.bind (bif !(!r) then Qfp x else some default) fun s=>F r s)=some true:=by
 rcases QJf p with ⟨hf,hS,h8⟩ | hf
 ·rw [hf,Qp];rcases QJg x with ⟨hx,hX⟩ | hx
  ·simp only [Bool.not_true,Bool.not_false,cond_true];rw [hx,Qp];exact h2 hS hX h8
  ·simp only [Bool.not_true,Bool.not_false,cond_true];rw [hx,Qp];exact h1
 ·rw [hf,Qp];exact h0 _
end Go.Gw

end
