/- Laws of the walk. Condition: each theorem says its own. -/
import Derived.Test.YteplgmnnkdpmeaaGreatDoorGwAwakeLock
set_option linter.unusedVariables false
set_option linter.unusedSimpArgs false
set_option linter.unusedSectionVars false
section
set_option maxRecDepth 4096
namespace Go.Gw
open Go
attribute [local irreducible] loop
theorem Qlo (l:List Int) (v:Int) (hl:l.length < 1000000):Qdw l v=some (decide (v∈l)):=by
 unfold Qdw;rw [Y0 l (fun x=>decide (x=v)) (fun _ _=>true),Qn]
 ·rcases ZY (p:=fun x=>decide (x=v)) (res:=fun _ _=>true) l 0 with ⟨k1,k2⟩ | ⟨j,x,k1,k2,k3⟩
  ·rw [k1,<-Qyi,k2];rfl
  ·rw [k1,<-Qyi,k3];rfl
 ·intro k hk;unfold Qqf;rw [XQ hk,XA hk,XK k (by omega)];rfl
 ·unfold Qqf;rw [XS];rfl
theorem QQj (l:List ByteArray) (s:ByteArray) (hl:l.length < 1000000):Qob l s=some (Qau (fun x=>decide (x=s)) l):=by
 unfold Qob Qau;rw [Y0 l (fun x=>decide (x=s)) (fun k _=>(k:Int)),Qn,Qev]
 ·intro k hk;unfold Qvu;rw [XQ hk,XA hk,XK k (by omega)];rfl
 ·unfold Qvu;rw [XS];rfl
theorem QBn (l:List ByteArray) (s:ByteArray):(l.any fun x=>decide (x=s))=Zl l s:=by
 unfold Zl;congr 1;funext x;exact decide_eq_decide.2 eq_comm
theorem QBo {α:Type} (f:α->ByteArray) (l:List α) (s:ByteArray):(l.any fun x=>decide (f x=s))=Zl (l.map f) s:=by
 rw [<-QBn,List.any_map];rfl
theorem QDd (l:List ByteArray) (hl:l.length < 1000):Qjj l=some (match XP (Zu l) l.length with | some i=>((i:Int),Zu l i) | none=>(0,0)):=by
 unfold Qjj;have key:loop (Qji l) 0=_:=Qak (step:=Qji l) (fun k=>(k:Int)) l.length (Zu l) (fun i e=>((i:Int),e)) () (fun k hk _=>by
  have hs:Zu l k=ZO l[k] (l.take k):=Z6 _ _ _ hk;rw [hs];unfold Qji ZO;rw [XQ hk,cond_true,XA hk,Qn,Qqe,Qn];cases Qav l[k]
  ·rfl
  ·simp only [Bool.not_true,cond_false,Qn,cond_true];rw [Qcr (by omega),Qn,QQj _ _ (by simp;omega),Qn,Qsu,QBn,XK k (by omega)];cases Zl (l.take k) l[k]<;>rfl) (fun _=>by
  unfold Qji;rw [XS];rfl)
 rw [key,Qn];cases XP (Zu l) l.length<;>rfl
theorem Qwp {α ρ:Type} {step:Int->Option (Int⊕(ρ⊕Unit))} (xs:List α) (n:Nat) (hn:n<=xs.length) (p:α->Bool) (c:ρ)
  (hs:∀ k (hk:k < xs.length),k < n->step (k:Int)=(bif p xs[k] then some (.inr (.inl c)) else some (.inl ((k+1:Nat):Int))))
  (he:step (n:Int)=some (.inr (.inr ()))):loop step 0=some (if (xs.take n).any p=true then .inl c else .inr ()):=by
 have hlen:(xs.take n).length=n:=by simp;omega
 rw [Y0 (xs.take n) p (fun _ _=>c) (fun k hk=>by
  rw [hlen] at hk;rw [hs k (by omega) hk];simp only [List.getElem_take]) (by rw [hlen];exact he)]
 rcases ZY (p:=p) (res:=fun _ _=>c) (xs.take n) 0 with ⟨k1,k2⟩ | ⟨j,x,k1,k2,k3⟩
 ·rw [k1,k2];rfl
 ·rw [k1,k3];rfl
theorem QRs {p:Nf} (h:PlantS p) (k:Nat) (hk:k < p.Nb.length):Qoi p k=some (ZS p k):=by
 have h1:=h.sw;have h2:=h.se;have hs:ZS p k=swE p k p.Nb[k]:=Z6 _ _ _ hk;have l0:loop (Qog p.Nb[k] (k:Int) p) 0=some (if (p.Nb.take k).any (fun o=>decide (o.Name=p.Nb[k].Name))=true then .inl 5 else .inr ()) :=
  Qwp p.Nb k (by omega) _ _ (fun j hj hjk=>by
   unfold Qog;rw [XQ hjk,cond_true,XA hj,Qn,XK j (by omega)]) (by
   unfold Qog;rw [XS];rfl)
 have l1:loop (Qoh p.Nb[k] (k:Int) p) 0=some (if (p.Nb.take k).any (fun o=>decide (o.Nm=p.Nb[k].Nm))=true then .inl 26 else .inr ()) :=
  Qwp p.Nb k (by omega) _ _ (fun j hj hjk=>by
   unfold Qoh;rw [XQ hjk,cond_true,XA hj,Qn,XK j (by omega)]) (by
   unfold Qoh;rw [XS];rfl)
 rw [hs];unfold Qoi swE swX ZO;rw [XA hk,Qn,Qqe,Qn,l0,l1,QBo (fun o:Nt=>o.Name),show Z1 p.Nb[k].Nm 0 (w64 ((p.Nc.length:Int) - 1))=some (YA p p.Nb[k].Nm) by rw [Qbv,Zf (by omega)];rfl];cases Qav p.Nb[k].Name
 ·rfl
 ·cases Zl ((p.Nb.take k).map (·.Name)) p.Nb[k].Name
  ·cases YA p p.Nb[k].Nm
   ·rfl
   ·cases (p.Nb.take k).any (fun o=>decide (o.Nm=p.Nb[k].Nm))<;>rfl
  ·rfl
theorem Qvg (n:Int):Z1 n 0 1=some (YW n):=by
 rw [Qbv];congr 1;unfold YW;rw [Bool.eq_iff_iff];simp only [Bool.and_eq_true,Bool.or_eq_true,decide_eq_true_eq];omega
theorem QRr {p:Nf} (h:PlantS p) (k:Nat) (hk:k < p.Ni.length):Qof p k=some (ZR p k):=by
 have h1:=h.ro;have h2:=h.se;have h3:=h.sw;obtain ⟨_,hr,hn⟩:=h.rn _ (List.getElem_mem hk);have hs:ZR p k=rtE p k p.Ni[k]:=Z6 _ _ _ hk;have l0:loop (Qoc p.Ni[k] p (k:Int)) 0=some (if (p.Ni.take k).any (fun o=>decide (o.Name=p.Ni[k].Name))=true then .inl 5 else .inr ()) :=
  Qwp p.Ni k (by omega) _ _ (fun j hj hjk=>by
   unfold Qoc;rw [XQ hjk,cond_true,XA hj,Qn,XK j (by omega)]) (by
   unfold Qoc;rw [XS];rfl)
 rw [hs];unfold Qof rtE;rw [XA hk,Qn,Qqe,Qn,l0,QBo (fun o:Nn=>o.Name)];generalize p.Ni[k]=r at hr hn ⊢;have l1:loop (Qod r p) 0=some (match XP (JJ p r) r.Nc.length with | some i=>.inl (JJ p r i) | none=>.inr ()) :=
  Qak (fun k=>(k:Int)) r.Nc.length (JJ p r) (fun _ e=>e) () (fun k hk _=>by
   have hs:JJ p r k=rsE p r k r.Nc[k]:=Z6 _ _ _ hk;rw [hs];unfold Qod rsE;rw [XQ hk,cond_true,XA hk,Qn,show Z1 r.Nc[k] 0 (w64 ((p.Nc.length:Int) - 1))=some (YA p r.Nc[k]) by rw [Qbv,Zf (by omega)];rfl,Qn,Qcr (by omega),Qn,Qn,Qlo _ _ (by simp;omega),Qn,XK k (by omega)];cases YA p r.Nc[k]<;>cases decide (r.Nc[k]∈r.Nc.take k)<;>rfl) (fun _=>by
   unfold Qod;rw [XS];rfl)
 have l2:r.Nq.length=p.Nb.length->loop (Qoe r p) 0=some (Yn (J2 r) (fun _ _=>(2:Int)) 0 (r.Nq.zip p.Nb)):=fun he =>
  Y0 (r.Nq.zip p.Nb) _ _ (fun k hk=>by
   rw [Qpu he] at hk;unfold Qoe;rw [XQ hk,cond_true,XA (show k < p.Nb.length by omega),Qn,Qlo _ _ (by omega),Qn,XA hk,XK k (by omega)];simp only [List.getElem_zip,J2,Qn,Qvg];cases decide (p.Nb[k].Nm∈r.Nc)<;>rfl) (by
   rw [Qpu he];unfold Qoe;rw [XS];rfl)
 unfold ZO;cases Qav r.Name
 ·rfl
 ·cases Zl ((p.Ni.take k).map (·.Name)) r.Name
  ·simp only [Bool.not_true,cond_false,cond_true,Qn,Xt,if_true,Bool.false_eq_true,if_false];unfold rtX;by_cases h4:r.Nc.length < 2
   ·rw [if_pos h4,decide_eq_true (show (r.Nc.length:Int) < 2 by omega)];rfl
   rw [if_neg h4,decide_eq_false (show ¬ (r.Nc.length:Int) < 2 by omega)];by_cases h5:p.Nc.length < r.Nc.length
   ·rw [if_pos h5,decide_eq_true (show (p.Nc.length:Int) < r.Nc.length by omega)];rfl
   rw [if_neg h5,decide_eq_false (show ¬ (p.Nc.length:Int) < r.Nc.length by omega),l1];simp only [cond_false,Qn];cases XP (JJ p r) r.Nc.length with
   | some i=>rfl
   | none =>
    simp only [Xt];by_cases h6:r.Nq.length=p.Nb.length
    ·rw [if_pos h6,decide_eq_true (show (r.Nq.length:Int)=p.Nb.length by omega),Bool.not_true,cond_false,l2 h6,Qn];rcases ZY (p:=J2 r) (res:=fun _ _=>(2:Int)) (r.Nq.zip p.Nb) 0 with ⟨k1,k2⟩ | ⟨j,x,k1,k2,k3⟩
     ·rw [k1,k2];rfl
     ·rw [k1,k3];rfl
    ·rw [if_neg h6,decide_eq_false (show ¬ (r.Nq.length:Int)=p.Nb.length by omega)];rfl
  ·rfl
theorem QRm {p:Nf} (h:PlantS p):Qnq p=some (ZQ p):=by
  have h3:=h.sw;have h4:=h.ro;have l0:loop (Qno p) 0=some (match XP (ZS p) p.Nb.length with | some i=>.inl (Nr.mk 3 i,ZS p i) | none=>.inr ()) :=
    Qak (fun k=>(k:Int)) p.Nb.length (ZS p) (fun i e=>(Nr.mk 3 i,e)) () (fun k hk _=>by
      unfold Qno;rw [XQ hk,cond_true,QRs h k hk,Qn,XK k (by omega)];by_cases h1:ZS p k=0
      · rw [if_pos h1,decide_eq_true h1];rfl
      · rw [if_neg h1,decide_eq_false h1];rfl) (fun _=>by
      unfold Qno;rw [XS];rfl)
  have l1:loop (Qnp p) 0=some (match XP (ZR p) p.Ni.length with | some i=>.inl (Nr.mk 4 i,ZR p i) | none=>.inr ()) :=
    Qak (fun k=>(k:Int)) p.Ni.length (ZR p) (fun i e=>(Nr.mk 4 i,e)) () (fun k hk _=>by
      unfold Qnp;rw [XQ hk,cond_true,QRr h k hk,Qn,XK k (by omega)];by_cases h1:ZR p k=0
      · rw [if_pos h1,decide_eq_true h1];rfl
      · rw [if_neg h1,decide_eq_false h1];rfl) (fun _=>by
      unfold Qnp;rw [XS];rfl)
  unfold Qnq ZQ;by_cases h1:p.Nc.length=0\/p.Na.length=0
  · rw [if_pos h1, show (decide ((p.Nc.length : Int) = 0) || decide ((p.Na.length : Int) = 0)) = true by
      simp only [Bool.or_eq_true,decide_eq_true_eq];omega]
    rfl
  rw [if_neg h1,decide_eq_false (show ¬ (p.Nc.length:Int)=0 by omega),decide_eq_false (show ¬ (p.Na.length:Int)=0 by omega)];simp only [Bool.or_self,cond_false];by_cases h2:8 < p.Nc.length\/3 < p.Na.length\/4 < p.Nb.length\/10 < p.Ni.length
  · rw [if_pos h2, show (((decide (8 < (p.Nc.length : Int)) || decide (3 < (p.Na.length : Int))) || decide (4 < (p.Nb.length : Int))) || decide (10 < (p.Ni.length : Int))) = true by
      simp only [Bool.or_eq_true,decide_eq_true_eq];omega]
    rfl
  rw [if_neg h2, show (((decide (8 < (p.Nc.length : Int)) || decide (3 < (p.Na.length : Int))) || decide (4 < (p.Nb.length : Int))) || decide (10 < (p.Ni.length : Int))) = false by
      rw [decide_eq_false (by omega),decide_eq_false (by omega),decide_eq_false (by omega),decide_eq_false (by omega)];rfl]
  rw [cond_false,QDd _ h.se,QDd _ h.tr,l0,l1];have hz:∀ {f:Nat->Int} {n i:Nat},XP f n=some i->f i≠0:=fun hf=>(Qah hf).2.1
  cases h3:XP (Zu p.Nc) p.Nc.length with
  | some i=>simp [hz h3]
  | none =>
    simp only [Qn,decide_true,Bool.not_true,cond_false];cases h4:XP (Zu p.Na) p.Na.length with
    | some i=>simp [hz h4]
    | none =>
      simp only [decide_true,Bool.not_true,cond_false];cases h5:XP (ZS p) p.Nb.length with
      | some i=>rfl
      | none =>
        simp only [Xt];cases h6:XP (ZR p) p.Ni.length with
        | some i=>rfl
        | none=>rfl
theorem QDe {p:Nf} (h:PlantS p):Qja p=some (ZQ p).2:=by
 unfold Qja;rw [QRm h];rfl
/-! ### Copies -/
theorem Qea (l:List Int) (h:l.length < 1000000):Qaq l=some l:=by
 unfold Qaq;rw [Jf (by simp;omega)];rfl
theorem Qza (l:List ByteArray) (h:l.length < 1000000):Qhm l=some l:=by
 unfold Qhm;rw [Jf (by simp;omega)];rfl
theorem Qkd {α:Type} (l:List α) (k:Nat) (hk:k < l.length):l.take k++[l[k]]=l.take (k+1):=by
 have:=Qwv l id k hk;simp
theorem Qqu {p:Nf} (h:PlantS p):Qdc p=some p:=by
 have h1:=h.se;have h2:=h.tr;have h3:=h.sw;have h4:=h.ro;have hl:=Qgd (step:=Qiw p) (o:=p.Ni) (fun k=>((k:Int),p.Ni.take k)) p.Ni.length (fun k hk=>by
  obtain ⟨_,hr,hn⟩:=h.rn _ (List.getElem_mem hk);unfold Qiw;simp only [XQ hk,cond_true,XA hk,Qn];rw [Qea _ (by omega),Qn,Qea _ (by omega),Qn,Jf (by simp;omega),Qn,XK k (by omega),Qkd _ _ hk]) (by
  unfold Qiw;simp only [XS,List.take_length];rfl)
 have hl2:loop (Qiw p) (0,([]:List Nn))=some p.Ni:=hl;unfold Qdc;rw [Qza _ (by omega),Qn,Qza _ (by omega),Qn,Jf (by simp;omega),Qn,Qn];simp only [List.nil_append];rw [hl2];rfl
theorem Qhu {x:Ng} (h:StateS x):Qbo x=some x:=by
 have h1:=h.sw;have h2:=h.tr;have hl:=Qgd (step:=Qix x) (o:=x.Na) (fun k=>((k:Int),x.Na.take k)) x.Na.length (fun k hk=>by
  unfold Qix;simp only [XQ hk,cond_true,XA hk,Qn];rw [Qea _ (by have:=h.ch _ (List.getElem_mem hk);omega),Qn,Jf (by simp;omega),Qn,XK k (by omega)];show some (Sum.inl (_,x.Na.take k++[x.Na[k]]))=_;rw [Qkd _ _ hk]) (by
  unfold Qix;simp only [XS,List.take_length];rfl)
 have hl2:loop (Qix x) (0,([]:List Nk))=some x.Na:=hl;unfold Qbo;rw [Qea _ (by omega),Qn,Qn];simp only;rw [hl2];rfl
/-! ### Equal ones -/
theorem QAg (a b:List Int) (ha:a.length < 1000000):Qhn a b=some (decide (a=b)):=by
 unfold Qhn;by_cases hl:a.length=b.length
 ·rw [decide_eq_true (by omega),Bool.not_true,cond_false,Y0 (a.zip b) (fun x=>!decide (x.1=x.2)) (fun _ _=>false),Qn,Qlj a b hl]
  ·intro k hk;rw [Qhc hl] at hk;unfold Qqg;rw [XQ hk,cond_true,XA hk,Qn,XA (show k < b.length by omega),Qn,XK k (by omega)];simp only [List.getElem_zip]
  ·rw [Qhc hl];unfold Qqg;rw [XS];rfl
 ·rw [decide_eq_false (by omega)];simp only [Bool.not_false,cond_true];rw [decide_eq_false];intro e;exact hl (by rw [e])
theorem QTf (a b:List Nj) (ha:a.length < 1000000):Qnu a b=some (decide (a=b)):=by
 unfold Qnu;by_cases hl:a.length=b.length
 ·rw [decide_eq_true (by omega),Bool.not_true,cond_false,Y0 (a.zip b) (fun x=>!decide (x.1=x.2)) (fun _ _=>false),Qn,Qlj a b hl]
  ·intro k hk;rw [Qhc hl] at hk;unfold Qvo;rw [XQ hk,cond_true,XA hk,Qn,XA (show k < b.length by omega),Qn,XK k (by omega)];simp only [List.getElem_zip]
  ·rw [Qhc hl];unfold Qvo;rw [XS];rfl
 ·rw [decide_eq_false (by omega)];simp only [Bool.not_false,cond_true];rw [decide_eq_false];intro e;exact hl (by rw [e])
theorem QTg {x:Ng} (h:StateS x) (y:Ng):Qes x y=some (decide (x=y)):=by
  have h1:=h.sw;have h2:=h.tr;cases x with
  | mk sw tr c =>
  cases y with
  | mk sw2 tr2 c2 =>
  simp only at h1 h2;unfold Qes;simp only [QAg sw sw2 (by omega),Qn,Ng.mk.injEq];by_cases e1:sw=sw2
  · by_cases e2:c=c2
    · by_cases hl:tr.length=tr2.length
      · rw [decide_eq_true e1,decide_eq_true e2,decide_eq_true (show (tr.length:Int)=tr2.length by omega)];simp only [Bool.not_true,Bool.or_self,cond_false];have key:loop (Qnv ⟨sw,tr,c⟩ ⟨sw2,tr2,c2⟩) 0=_:=Y0 (tr.zip tr2) (fun x=>!decide (x.1=x.2)) (fun _ _=>false) (fun k hk=>by
          rw [Qhc hl] at hk;unfold Qnv;simp only [XQ hk,cond_true,XA hk,Qn,XA (show k < tr2.length by omega)];rw [QAg _ _ (by have:(tr[k]).Nd.length < 1000:=h.ch _ (List.getElem_mem hk);omega),Qn,XK k (by omega)];simp only [List.getElem_zip];cases h3:tr[k] with
          | mk ch un =>
          cases h4:tr2[k]'(by omega) with
          | mk ch2 un2 =>
          simp only [Nk.mk.injEq];by_cases e3:ch=ch2
          · by_cases e4:un=un2
            · simp [e3,e4]
            · simp [e3,e4]
          · simp [e3]) (by
          rw [Qhc hl];unfold Qnv;simp only [XS];rfl)
        rw [key,Qn,Qlj tr tr2 hl];simp [e1,e2]
      · rw [decide_eq_false (show ¬ (tr.length:Int)=tr2.length by omega)];have:tr≠tr2:=fun e=>hl (by rw [e])
        simp [this]
    · simp [e2]
  · simp [e1]
/-! ### The Qtc -/
theorem QJp (p:Nf):Qeg p=some true/\PlantS p/\(p.Nc.length<=4\/8 < p.Nc.length)\/Qeg p=some false:=by
 unfold Qeg;cases hb:(((((decide (4 < (p.Nc.length:Int))&&decide ((p.Nc.length:Int)<=8))||decide (10 < (p.Nc.length:Int)))||decide (5 < (p.Na.length:Int)))||decide (6 < (p.Nb.length:Int)))||decide (12 < (p.Ni.length:Int))) with
 | true=>exact .inr rfl
 | false =>
  rw [cond_false];simp only [Bool.or_eq_false_iff,Bool.and_eq_false_iff,decide_eq_false_iff_not] at hb;have h1:p.Nc.length < 1000:=by omega
  have h2:p.Na.length < 1000:=by omega
  have h3:p.Nb.length < 1000:=by omega
  have h4:p.Ni.length < 1000:=by omega
  have l0:loop (Qlu p) 0=some (Yn (fun s:ByteArray=>decide (20 < (s.size:Int))) (fun _ _=>false) 0 p.Nc):=Y0 p.Nc _ _ (fun k hk=>by
   unfold Qlu;rw [XQ hk,cond_true,XA hk,Qn,XK k (by omega)]) (by unfold Qlu;rw [XS];rfl)
  have l1:loop (Qlv p) 0=some (Yn (fun s:ByteArray=>decide (20 < (s.size:Int))) (fun _ _=>false) 0 p.Na):=Y0 p.Na _ _ (fun k hk=>by
   unfold Qlv;rw [XQ hk,cond_true,XA hk,Qn,XK k (by omega)]) (by unfold Qlv;rw [XS];rfl)
  have l2:loop (Qlw p) 0=some (Yn (fun s:Nt=>decide (20 < (s.Name.size:Int))) (fun _ _=>false) 0 p.Nb):=Y0 p.Nb _ _ (fun k hk=>by
   unfold Qlw;rw [XQ hk,cond_true,XA hk,Qn,XK k (by omega)]) (by unfold Qlw;rw [XS];rfl)
  have l3:loop (Qlx p) 0=some (Yn (fun r:Nn=>decide (20 < (r.Name.size:Int))||(decide (10 < (r.Nc.length:Int))||decide (6 < (r.Nq.length:Int)))) (fun _ _=>false) 0 p.Ni):=Y0 p.Ni _ _ (fun k hk=>by
   unfold Qlx;simp only [XQ hk,cond_true,XA hk,Qn,XK k (show k < 4611686018427387904 by omega)];cases decide (20 < (p.Ni[k].Name.size:Int))<;>cases decide (10 < (p.Ni[k].Nc.length:Int))<;>cases decide (6 < (p.Ni[k].Nq.length:Int))<;>rfl) (by unfold Qlx;rw [XS];rfl)
  rw [l0,l1,l2,l3];simp only [Qn];rcases ZY (p:=fun s:ByteArray=>decide (20 < (s.size:Int))) (res:=fun _ _=>false) p.Nc 0 with ⟨k1,k2⟩ | ⟨j,x,k1,k2,k3⟩
  ·rw [k1];rcases ZY (p:=fun s:ByteArray=>decide (20 < (s.size:Int))) (res:=fun _ _=>false) p.Na 0 with ⟨m1,m2⟩ | ⟨j,x,m1,m2,m3⟩
   ·rw [m1];rcases ZY (p:=fun s:Nt=>decide (20 < (s.Name.size:Int))) (res:=fun _ _=>false) p.Nb 0 with ⟨n1,n2⟩ | ⟨j,x,n1,n2,n3⟩
    ·rw [n1];rcases ZY (p:=fun r:Nn=>decide (20 < (r.Name.size:Int))||(decide (10 < (r.Nc.length:Int))||decide (6 < (r.Nq.length:Int)))) (res:=fun _ _=>false) p.Ni 0 with ⟨o1,o2⟩ | ⟨j,x,o1,o2,o3⟩
     ·rw [o1];rw [List.any_eq_false] at k2 m2 n2 o2;refine .inl ⟨rfl,⟨h1,h2,h3,h4,fun s hs=>?_,fun s hs=>?_,fun s hs=>?_,fun r hr=>?_⟩,by omega⟩
      ·have:=k2 s hs;simp at this;omega
      ·have:=m2 s hs;simp at this;omega
      ·have:=n2 s hs;simp at this;omega
      ·have:=o2 r hr;simp at this;omega
     ·rw [o1];exact .inr rfl
    ·rw [n1];exact .inr rfl
   ·rw [m1];exact .inr rfl
  ·rw [k1];exact .inr rfl
theorem QJq (x:Ng):Qeh x=some true/\StateS x\/Qeh x=some false:=by
 unfold Qeh;cases hb:(decide (6 < (x.Nb.length:Int))||decide (5 < (x.Na.length:Int))) with
 | true=>exact .inr rfl
 | false =>
  rw [cond_false];simp only [Bool.or_eq_false_iff,decide_eq_false_iff_not] at hb;have l0:loop (Qly x) 0=some (Yn (fun t:Nk=>decide (10 < (t.Nd.length:Int))) (fun _ _=>false) 0 x.Na):=Y0 x.Na _ _ (fun k hk=>by
   unfold Qly;rw [XQ hk,cond_true,XA hk,Qn,XK k (by omega)]) (by unfold Qly;rw [XS];rfl)
  rw [l0,Qn];rcases ZY (p:=fun t:Nk=>decide (10 < (t.Nd.length:Int))) (res:=fun _ _=>false) x.Na 0 with ⟨k1,k2⟩ | ⟨j,y,k1,k2,k3⟩
  ·rw [k1];rw [List.any_eq_false] at k2;refine .inl ⟨rfl,by omega,by omega,fun t ht=>?_⟩;have:=k2 t ht;simp at this;omega
  ·rw [k1];exact .inr rfl
end Go.Gw

end
section
set_option maxRecDepth 4096
namespace Go.Gw
open Go
attribute [local irreducible] loop
theorem Qvk {x:Ng} (h:StateS x) (s:Int):Qgm x s=some (Ya x s):=by
 have h1:=h.tr;unfold Qgm Ya Qau;rw [Y0 x.Na (fun t=>decide (s∈t.Nd)) (fun k _=>(k:Int)),Qn,Qev]
 ·intro k hk;unfold Qvn;rw [XQ hk,cond_true,XA hk,Qn,Qlo _ _ (by have:=h.ch _ (List.getElem_mem hk);omega),Qn,XK k (by omega)]
 ·unfold Qvn;rw [XS];rfl
theorem QDf {p:Nf} (h:PlantS p) (n:Int):Qjc p n=some (bif YA p n then 0 else 6):=by
 have:=h.se;unfold Qjc;rw [Qbv,Zf (by omega),Qn];show (bif !(YA p n) then _ else _)=_;cases YA p n<;>rfl
theorem QRt {p:Nf} (h:PlantS p) (n:Int):Qny p n=some (bif J8 p n then 0 else 6):=by
 have:=h.tr;unfold Qny;rw [Qbv,Zf (by omega),Qn];show (bif !(J8 p n) then _ else _)=_;cases J8 p n<;>rfl
theorem Qvj {p:Nf} (h:PlantS p) (e:Nj):Qgl p e=some (Yt p e):=by
  have h1:=h.sw;have h2:=h.ro;unfold Qgl Yt;rw [Qbv,Qn];by_cases hk:0<=e.Kind/\e.Kind<=6
  · rw [if_neg (by omega),show (decide (0<=e.Kind)&&decide (e.Kind<=6))=true by simp [hk.1,hk.2]];simp only [Bool.not_true,cond_false];by_cases h2:e.Kind=2
    · rw [if_pos h2,decide_eq_true h2,cond_true,Qbv,Zf (by omega),Qn,Qvg];show (bif !(Qdg p e.A) then _ else _)=_;cases Qdg p e.A<;>cases YW e.B<;>rfl
    · rw [if_neg h2,decide_eq_false h2,cond_false,QRt h,Qn,QDf h,Qn,Qbv,Zf (by omega),Qn];cases J8 p e.A
      · rfl
      simp only [cond_true,decide_true,Bool.not_true,cond_false];by_cases h0:e.Kind=0
      · rw [if_pos h0,decide_eq_true h0];rfl
      · rw [if_neg h0,decide_eq_false h0,cond_false];by_cases h1:e.Kind=1
        · rw [if_pos h1,decide_eq_true h1,cond_true];show (bif !(Qdd p e.B) then _ else _)=_;cases Qdd p e.B<;>rfl
        · rw [if_neg h1,decide_eq_false h1,cond_false];by_cases h3:e.B=0
          · rw [if_pos h3,decide_eq_true h3];rfl
          · rw [if_neg h3,decide_eq_false h3];rfl
  · rw [if_pos hk, show (decide (0 <= e.Kind) && decide (e.Kind <= 6)) = false by
      rw [Bool.and_eq_false_iff,decide_eq_false_iff_not,decide_eq_false_iff_not];omega]
    rfl
/-! ### Which section leads to which -/
theorem Qzr {α:Type} (g:α->Bool):∀ (l:List α) (k:Nat) (b:Bool),fld (fun (_:Nat) (a:Bool) (x:α)=>a&&!(g x)) k b l=(b&&!(l.any g))
 | [],k,b=>by simp [fld]
 | x::l,k,b=>by
  unfold fld;rw [Qzr g l];simp only [List.any_cons];cases b<;>cases g x<;>simp
theorem QRp {p:Nf} {x:Ng} {r:Nn} {a b:Int} (h1:r.Nq.length=p.Nb.length) (h2:x.Nb.length=p.Nb.length) (h3:p.Nb.length < 1000):loop (Qjh r p x b a) (true,0)=some (YN p x.Nb r [a,b]):=by
 have hlen:(p.Nb.zip (r.Nq.zip x.Nb)).length=p.Nb.length:=by simp [h1,h2]
 have:=(QBj (step:=Qjh r p x b a) (p.Nb.zip (r.Nq.zip x.Nb)) (fun _ (c:Bool) q=>c&&!(Qei [a,b] q)) (fun c k=>(c,(k:Int))) (fun c=>c) (fun _ _=>True) true trivial (fun k hk c _=>by
  rw [hlen] at hk;refine ⟨?_,trivial⟩;unfold Qjh;simp only [XQ hk,cond_true,XA hk,Qn,XK k (show k < 4611686018427387904 by omega),XA (show k < r.Nq.length by omega),XA (show k < x.Nb.length by omega),List.getElem_zip,Qei];generalize hs:p.Nb[k].Nm=s;by_cases ha:s=a
  ·subst ha;cases c
   ·simp
   ·by_cases hn:x.Nb[k]=r.Nq[k]
    ·simp [hn]
    ·simp [hn,Ne.symm hn]
  ·by_cases hb:s=b
   ·subst hb;cases c
    ·simp [ha,hs]
    ·by_cases hn:x.Nb[k]=r.Nq[k]
     ·simp [hn,ha,hs]
     ·simp [hn,Ne.symm hn,ha,hs]
   ·cases c<;>simp [ha,hb,hs]) (fun c _=>by
  rw [hlen];unfold Qjh;simp only [XS];rfl)).1
 rw [Qzr,Bool.true_and] at this;exact this
theorem QRo {p:Nf} (hp:PlantOk p) {x:Ng} (h2:x.Nb.length=p.Nb.length) (a b:Int):Qoa p x a b=some (J1 p x.Nb a b):=by
 have hw4:=hp.w4;have hr10:=hp.r10;have hs8:=hp.s8;unfold Qoa J1;have inner:∀ r∈p.Ni,loop (Qnz r p x b a) 0=some (if (Ja r a b&&YN p x.Nb r [a,b])=true then .inl (.inr (.inl true)) else .inr ()):=fun r hr=>by
  have hr2:=hp.r2 r hr;have hr8:=hp.r8 r hr;have hlen:(r.Nc.zip (r.Nc.drop 1)).length=r.Nc.length - 1:=by simp
  rw [Y0 (r.Nc.zip (r.Nc.drop 1)) (fun q=>(decide (q.1=a)&&decide (q.2=b))&&YN p x.Nb r [a,b]) (fun _ _=>Sum.inr (.inl true)) (fun k hk=>by
   rw [hlen] at hk;unfold Qnz;rw [XK k (by omega),XQ (show k+1 < r.Nc.length by omega),cond_true,XA (show k < r.Nc.length by omega),Qn,XA (show k+1 < r.Nc.length by omega),QRp (hp.rn r hr) h2 (by omega)];simp only [List.getElem_zip,List.getElem_drop,Qn];have e:r.Nc[1+k]'(by omega)=r.Nc[k+1]'(by omega) := by congr 1;omega
   rw [e];generalize YN p x.Nb r [a,b]=lb;by_cases h3:r.Nc[k]=a
   ·by_cases h4:r.Nc[k+1]=b
    ·cases lb<;>simp [h3,h4]
    ·cases lb<;>simp [h3,h4]
   ·cases lb<;>simp [h3]) (by
   rw [hlen];unfold Qnz;rw [XK _ (by omega),show r.Nc.length - 1+1=r.Nc.length by omega,XS];rfl)]
  have ea:(r.Nc.zip (r.Nc.drop 1)).any (fun q=>(decide (q.1=a)&&decide (q.2=b))&&YN p x.Nb r [a,b])=(Ja r a b&&YN p x.Nb r [a,b]):=by
   unfold Ja;cases YN p x.Nb r [a,b]<;>simp
  rcases ZY (p:=fun q:Int×Int=>(decide (q.1=a)&&decide (q.2=b))&&YN p x.Nb r [a,b]) (res:=fun _ _=>(Sum.inr (.inl true):Int⊕(Bool⊕Unit))) (r.Nc.zip (r.Nc.drop 1)) 0 with ⟨k1,k2⟩ | ⟨j,y,k1,k2,k3⟩
  ·rw [k1,<-ea,k2];rfl
  ·rw [k1,<-ea,k3];rfl
 rw [Y0 p.Ni (fun r=>Ja r a b&&YN p x.Nb r [a,b]) (fun _ _=>true),Qn]
 ·rcases ZY (p:=fun r=>Ja r a b&&YN p x.Nb r [a,b]) (res:=fun _ _=>true) p.Ni 0 with ⟨k1,k2⟩ | ⟨j,y,k1,k2,k3⟩
  ·rw [k1,k2];rfl
  ·rw [k1,k3];rfl
 ·intro k hk;unfold Qvt;rw [XQ hk,cond_true,XA hk,Qn,inner _ (List.getElem_mem hk),XK k (by omega)];cases (Ja p.Ni[k] a b&&YN p x.Nb p.Ni[k] [a,b])<;>rfl
 ·unfold Qvt;rw [XS];rfl
/-! ### Which states are right -/
theorem QNe {x:Ng} {n:Nat} {s:Int}:decide (s∈(x.Na.take n).flatMap (·.Nd))=(x.Na.take n).any fun o=>decide (s∈o.Nd):=by
 rw [Bool.eq_iff_iff,decide_eq_true_eq,List.any_eq_true,List.mem_flatMap];simp only [decide_eq_true_eq]
theorem QDc {p:Nf} (hS:PlantS p) (hp:PlantOk p) {x:Ng} (h:StateS x) (h2:x.Nb.length=p.Nb.length) (n:Nat) (hn:n < x.Na.length) (hf:((x.Na.take n).flatMap (·.Nd)).length<=1000 * n) :
    loop (Qjd x.Na[n] p x) ((x.Na.take n).flatMap (·.Nd),0)=some (match XP (Jt p x n x.Na[n]) x.Na[n].Nd.length with | some k=>.inl (.inr (.inl (Jt p x n x.Na[n] k))) | none=>.inr ((x.Na.take (n+1)).flatMap (·.Nd))):=by
  have hc:=h.ch _ (List.getElem_mem hn);have hl:=h.tr;have e1:(x.Na.take (n+1)).flatMap (·.Nd)=(x.Na.take n).flatMap (·.Nd)++x.Na[n].Nd:=by
    rw [<-Qkd _ _ hn,List.flatMap_append];simp
  rw [e1];generalize hF:(x.Na.take n).flatMap (·.Nd)=F at hf ⊢;have hm:∀ s,decide (s∈F)=(x.Na.take n).any fun o=>decide (s∈o.Nd):=fun s=>by rw [<-hF];exact QNe
  have:=Qak (step:=Qjd x.Na[n] p x) (fun k=>(F++x.Na[n].Nd.take k,(k:Int))) x.Na[n].Nd.length (Jt p x n x.Na[n]) (fun _ e=>(.inr (.inl e):((List Int)×Int)⊕(Int⊕Unit))) (F++x.Na[n].Nd) (fun k hk _=>by
    have hs:Jt p x n x.Na[n] k=chE p x n x.Na[n] k x.Na[n].Nd[k]:=Z6 _ _ _ hk;rw [hs];unfold Qjd chE;simp only [XQ hk,cond_true,XA hk,Qn,QDf hS];rw [Qlo _ _ (by simp;omega),Qn,Jf (by simp;omega),Qn,XK k (by omega),List.append_assoc,Qkd _ _ hk,
      show decide (x.Na[n].Nd[k]∈F++x.Na[n].Nd.take k)=(decide (x.Na[n].Nd[k]∈x.Na[n].Nd.take k)||(x.Na.take n).any fun o=>decide (x.Na[n].Nd[k]∈o.Nd)) by
        rw [<-hm,Bool.eq_iff_iff];simp [or_comm]]
    cases YA p x.Na[n].Nd[k]
    · rfl
    cases (decide (x.Na[n].Nd[k]∈x.Na[n].Nd.take k)||(x.Na.take n).any fun o=>decide (x.Na[n].Nd[k]∈o.Nd))
    · simp only [cond_true,decide_true,Bool.not_true,cond_false];by_cases hk0:k=0
      · subst hk0;rfl
      · rw [decide_eq_true (show (0:Int) < (k:Int) by omega),show w64 ((k:Int) - 1)=((k - 1:Nat):Int) by rw [Zf (by omega)];omega];simp only [cond_true,XA (show k - 1 < x.Na[n].Nd.length by omega),Qn,QRo hp h2,if_neg hk0,List.getElem?_eq_getElem (show k - 1 < x.Na[n].Nd.length by omega),Option.getD_some];cases J1 p x.Nb x.Na[n].Nd[k - 1] x.Na[n].Nd[k]<;>rfl
    · rfl) (fun _=>by
    unfold Qjd;simp only [XS,List.take_length];rfl)
  simp only [List.take_zero,List.append_nil,Int.natCast_zero] at this;exact this
theorem QDg {p:Nf} (hS:PlantS p) (hp:PlantOk p) {x:Ng} (h:StateS x):Qje p x=some (Qew p x):=by
  have h1:=h.sw;have h2:=h.tr;have hw4:=hp.w4;have ht3:=hp.t3;unfold Qje Qew;by_cases hl:x.Nb.length=p.Nb.length/\x.Na.length=p.Na.length
  · rw [if_pos hl,decide_eq_true (show (x.Nb.length:Int)=p.Nb.length by omega),decide_eq_true (show (x.Na.length:Int)=p.Na.length by omega)];simp only [Bool.not_true,Bool.or_self,cond_false];rw [Y0 x.Nb (fun n=>!(YW n)) (fun _ _=>2) (fun k hk=>by
      unfold Qvq;rw [XQ hk,cond_true,XA hk,Qn,Qvg,Qn,XK k (by omega)]) (by
      unfold Qvq;rw [XS];rfl),Qn]
    have ea:x.Nb.any (fun n=>!(YW n))=!(x.Nb.all YW):=by
      rw [List.all_eq_not_any_not,Bool.not_not]
    rcases ZY (p:=fun n=>!(YW n)) (res:=fun _ _=>(2:Int)) x.Nb 0 with ⟨k1,k2⟩ | ⟨j,y,k1,k2,k3⟩
    · rw [k1];rw [ea,Bool.not_eq_false'] at k2;rw [k2,Bool.true_and];simp only [Xt];rw [show Qvs x.Nh=some (Qbg x.Nh) from rfl,Qn];cases Qbg x.Nh
      · rfl
      · simp only [Bool.not_true,cond_false,cond_true];have:=Qak (step:=Qnw p x) (fun n=>((x.Na.take n).flatMap (·.Nd),(n:Int))) x.Na.length (JN p x) (fun _ e=>e) () (fun n hn _=>by
          have hs:JN p x n=tsE p x n x.Na[n]:=Z6 _ _ _ hn;have hf:∀ m,m<=x.Na.length->((x.Na.take m).flatMap (·.Nd)).length<=1000 * m:=fun m=>by
            induction m with
            | zero=>intro _;simp
            | succ m ih =>
              intro hm;rw [<-Qkd _ _ (show m < x.Na.length by omega),List.flatMap_append,List.length_append];have:=ih (by omega);have:=h.ch _ (List.getElem_mem (show m < x.Na.length by omega));rw [show ([x.Na[m]]:List Nk).flatMap (·.Nd)=x.Na[m].Nd by simp];omega
          have hc:=h.ch _ (List.getElem_mem hn);rw [hs];unfold Qnw tsE;simp only [XQ hn,cond_true,XA hn,Qn,Qbv];have eu:(((decide ((x.Na[n].Nd.length:Int)=0))&&(!decide (x.Na[n].Nl=0)))||((decide (0 < (x.Na[n].Nd.length:Int)))&&(!(decide (1<=x.Na[n].Nl)&&decide (x.Na[n].Nl<=(x.Na[n].Nd.length:Int))))))=!(J9 x.Na[n]):=by
            unfold J9;by_cases h0:x.Na[n].Nd.length=0
            · rw [if_pos h0,decide_eq_true (show (x.Na[n].Nd.length:Int)=0 by omega),decide_eq_false (show ¬ (0:Int) < x.Na[n].Nd.length by omega)];simp
            · rw [if_neg h0,decide_eq_false (show ¬ (x.Na[n].Nd.length:Int)=0 by omega),decide_eq_true (show (0:Int) < x.Na[n].Nd.length by omega)];simp
          by_cases h0:x.Na[n].Nd.length=0
          · have g1:decide ((x.Na[n].Nd.length:Int)=0)=true:=decide_eq_true (by omega);have g2:decide ((0:Int) < x.Na[n].Nd.length)=false:=decide_eq_false (by omega);rw [g1,g2] at eu ⊢;simp only [Bool.and_false,cond_false,Qn,Bool.false_and,Bool.or_false] at eu ⊢;rw [eu];cases J9 x.Na[n]
            · rfl
            · simp only [Bool.not_true,cond_false,cond_true];rw [QDc hS hp h hl.1 n hn (hf n (by omega)),Qn];cases hfe:XP (Jt p x n x.Na[n]) x.Na[n].Nd.length with
              | some k=>rw [if_neg (Qah hfe).2.1];rfl
              | none=>rw [if_pos rfl];simp only [Xt];rw [XK n (by omega)]
          · have g1:decide ((x.Na[n].Nd.length:Int)=0)=false:=decide_eq_false (by omega);have g2:decide ((0:Int) < x.Na[n].Nd.length)=true:=decide_eq_true (by omega);rw [g1,g2] at eu ⊢;simp only [Bool.false_and,Bool.not_false,Bool.and_true,cond_true,Qn] at eu ⊢;rw [eu];cases J9 x.Na[n]
            · rfl
            · simp only [Bool.not_true,cond_false,cond_true];rw [QDc hS hp h hl.1 n hn (hf n (by omega)),Qn];cases hfe:XP (Jt p x n x.Na[n]) x.Na[n].Nd.length with
              | some k=>rw [if_neg (Qah hfe).2.1];rfl
              | none=>rw [if_pos rfl];simp only [Xt];rw [XK n (by omega)]) (fun _=>by
          unfold Qnw;simp only [XS];rfl)
        simp only [List.take_zero,List.flatMap_nil,Int.natCast_zero] at this;rw [this,Qn];cases XP (JN p x) x.Na.length<;>rfl
    · rw [k1];rw [ea,Bool.not_eq_true'] at k3;rw [k3];rfl
  · rw [if_neg hl, show (!decide ((x.Nb.length : Int) = p.Nb.length) || !decide ((x.Na.length : Int) = p.Na.length)) = true by
      simp only [Bool.or_eq_true,Bool.not_eq_true',decide_eq_false_iff_not];omega]
    rfl
end Go.Gw

end
section
set_option maxRecDepth 4096
namespace Go.Gw
open Go
attribute [local irreducible] loop
theorem QMt {α ρ:Type} {step:Int->Option (Int⊕(ρ⊕Unit))} (xs:List α) (p:α->Bool) (c:ρ) (h1:1<=xs.length)
  (hs:∀ k (hk:k < xs.length),1<=k->step (k:Int)=(bif p xs[k] then some (.inr (.inl c)) else some (.inl ((k+1:Nat):Int))))
  (he:step (xs.length:Int)=some (.inr (.inr ()))):loop step 1=some (if (xs.drop 1).any p=true then .inl c else .inr ()):=by
 have key:∀ j k,1<=k->j+k=xs.length->loop step (k:Int)=some (if (xs.drop k).any p=true then .inl c else .inr ()):=by
  intro j
  induction j with
  | zero =>
   intro k _ hk;obtain rfl:k=xs.length:=by omega
   rw [List.drop_length];exact Qbl he
  | succ j ih =>
   intro k hk1 hk;have hlt:k < xs.length:=by omega
   rw [List.drop_eq_getElem_cons hlt,List.any_cons];have:=hs k hlt hk1;cases hp:p xs[k] with
   | true=>rw [hp] at this;exact Qbl this
   | false=>rw [hp] at this;rw [Qbk this,Bool.false_or];exact ih (k+1) (by omega) (by omega)
 exact key (xs.length - 1) 1 (by omega) (by omega)
def Qcq (q:Int×Int):Bool:=!decide (q.1=-1)&&!decide (q.1=q.2)
theorem QHz {p:Nf} {r:Nn} {sw:List Int} (h1:r.Nq.length=p.Nb.length) (h2:sw.length=p.Nb.length) (hx:(r.Nq.zip p.Nb).any (J2 r)=false):(r.Nq.zip sw).any Qcq=!(YN p sw r r.Nc):=by
 rw [List.any_eq_false] at hx;have hn:∀ k (hk:k < p.Nb.length),(p.Nb[k].Nm∈r.Nc->r.Nq[k]≠-1)/\(p.Nb[k].Nm∉r.Nc->r.Nq[k]=-1):=fun k hk=>by
  have:=hx (r.Nq[k],p.Nb[k]) (List.mem_iff_getElem.2 ⟨k,by simp;omega,by simp⟩);unfold J2 at this;by_cases hm:p.Nb[k].Nm∈r.Nc
  ·simp [hm] at this;exact ⟨fun _=>by omega,fun h=>absurd hm h⟩
  ·simp [hm] at this;exact ⟨fun h=>absurd h hm,fun _=>this⟩
 cases hl:YN p sw r r.Nc with
 | true =>
  rw [Bool.not_true,List.any_eq_false];intro q hq;obtain ⟨k,hk,rfl⟩:=List.getElem_of_mem hq;simp only [List.length_zip] at hk;simp only [List.getElem_zip,Qcq,Bool.and_eq_true,Bool.not_eq_true',decide_eq_false_iff_not,not_and,Decidable.not_not];intro hne;by_cases hm:p.Nb[k].Nm∈r.Nc
  ·exact liesB_iff.1 hl k (by omega) (by omega) (by omega) hm
  ·exact absurd ((hn k (by omega)).2 hm) hne
 | false =>
  rw [Bool.not_false];cases ha:(r.Nq.zip sw).any Qcq with
  | true=>rfl
  | false =>
   rw [List.any_eq_false] at ha;have:YN p sw r r.Nc=true:=liesB_iff.2 fun k k1 k2 k3 hm=>by
    have:=ha (r.Nq[k],sw[k]) (List.mem_iff_getElem.2 ⟨k,by simp;omega,by simp⟩);simp only [Qcq,Bool.and_eq_true,Bool.not_eq_true',decide_eq_false_iff_not,not_and,Decidable.not_not] at this;exact this ((hn k k1).1 hm)
   rw [this] at hl;cases hl
theorem QKf {α:Type} {xs:List α} (h:0 < xs.length):idx xs 0=some xs[0]:=XA (k:=0) h
theorem QDh {p:Nf} (hp:PlantOk p) {x:Ng} (h:StateOk p x) {e:Nj} (he:Yt p e=0):Qjg p x e=some (if Zw p x e=0 then (Jb p x e,0) else (x,Zw p x e)):=by
  have hs:=h.s hp;have hw4:=hp.w4;have ht3:=hp.t3;have hkd:=Qia he;have hsl:=h.sw;have htl:=h.tr;unfold Qjg;by_cases h2:e.Kind=2
  · obtain ⟨a0,a1,a2⟩:=Qrd he h2;have e1:Zw p x e=(bif Zm x (Qey p e).Nm then 17 else 0):=by unfold Zw;rw [if_pos h2]
    have e2:Jb p x e=⟨x.Nb.set e.A.toNat e.B,x.Na,x.Nh⟩:=by unfold Jb;rw [if_pos h2]
    rw [e1,e2,Qwu a1,decide_eq_true h2,cond_true,Qhu hs,Qn,Qbx a0 a1,Qn,Qvk hs,Qn,Qls];cases Zm x p.Nb[e.A.toNat].Nm with
    | true=>rfl
    | false =>
      simp only [cond_false];rw [Qbx a0 (by omega),Qn];rfl
  obtain ⟨a0,a1,a2,a3,a4⟩:=Qrc he h2;have ha:e.A.toNat < x.Na.length:=by omega
  have htm:ZK x e∈x.Na:=by rw [Qgy ha];exact List.getElem_mem ha
  have hcl:=h.len htm;have hs8:=hp.s8;have hu:=h.un _ htm;have e2:Jb p x e=⟨x.Nb,x.Na.set e.A.toNat (trX p (ZK x e) e),x.Nh⟩:=by unfold Jb;rw [if_neg h2]
  rw [e2,decide_eq_false h2,cond_false,Qhu hs,Qn];have hix:∀ {α:Type} (f:Nk->Option α),Option.bind (idx x.Na e.A) f=f (ZK x e):=fun f=>by rw [Qbx a0 ha,Qn,Qgy ha]
  rw [hix];simp only [hix];unfold Zw trX;simp only [if_neg h2];generalize ZK x e=t at *
  by_cases h0:e.Kind=0
  · simp only [if_pos h0,decide_eq_true h0,cond_true];by_cases hc:t.Nd.length=0
    · rw [if_pos hc,decide_eq_false (show ¬ (0:Int) < t.Nd.length by omega),cond_false,Qvk hs,Qn,Qls];cases Zm x e.B<;>rfl
    · rw [if_neg hc,decide_eq_true (show (0:Int) < t.Nd.length by omega)];rfl
  simp only [if_neg h0,decide_eq_false h0,cond_false];by_cases hc:t.Nd.length=0
  · rw [decide_eq_true (show (t.Nd.length:Int)=0 by omega),if_pos hc];rfl
  rw [decide_eq_false (show ¬ (t.Nd.length:Int)=0 by omega),cond_false,if_neg hc];have hu2:1<=t.Nl/\t.Nl<=t.Nd.length:=by
    rcases hu with ⟨h3,_⟩ | h3
    · rw [h3] at hc;exact absurd rfl hc
    · exact h3
  by_cases h1:e.Kind=1
  · simp only [if_pos h1,decide_eq_true h1,cond_true];obtain ⟨b0,b1⟩:=a3 h1;rw [Qbx b0 b1,Qn,<-Qjk b1];have hr:J6 p e∈p.Ni:=by rw [Qjk b1];exact List.getElem_mem b1
    generalize J6 p e=r at *
    have hr2:=hp.r2 r hr;have hr8:=hp.r8 r hr;have hrn:=hp.rn r hr;have hrx:=hp.rx r hr;rw [QKf (show 0 < r.Nc.length by omega),Qn,
      show w64 ((t.Nd.length:Int) - 1)=((t.Nd.length - 1:Nat):Int) by rw [Zf (by omega)];omega,XA (show t.Nd.length - 1 < t.Nd.length by omega),Qn,Qzy (by omega) (by omega)]
    by_cases h3:r.Nc.head?=t.Nd.getLast?
    · rw [if_pos h3,decide_eq_true h3,Bool.not_true,cond_false];have l0:loop (Qnx r x x) 1=some (if (r.Nc.drop 1).any (Zm x)=true then .inl (.inl (x,17)) else .inr ()) :=
        QMt r.Nc (Zm x) _ (by omega) (fun k hk _=>by
          unfold Qnx;rw [XQ hk,cond_true,XA hk,Qn,Qvk hs,Qn,Qls,XK k (by omega)]) (by
          unfold Qnx;rw [XS];rfl)
      have hlen:(r.Nq.zip x.Nb).length=r.Nq.length:=by simp [hrn,hsl]
      have l1:loop (Qjf r x x) 0=some (if (r.Nq.zip x.Nb).any Qcq=true then .inl (.inl (x,13)) else .inr ()):=by
        rw [Y0 (step:=Qjf r x x) (r.Nq.zip x.Nb) Qcq (fun _ _=>.inl (x,13)) (fun k hk=>by
          rw [hlen] at hk;unfold Qjf;rw [XQ hk,cond_true,XA hk,Qn,XA (show k < x.Nb.length by omega),XK k (by omega)];simp only [List.getElem_zip,Qcq];cases decide (r.Nq[k]=-1)<;>rfl) (by
          rw [hlen];unfold Qjf;rw [XS];rfl)]
        rcases ZY (p:=Qcq) (res:=fun _ _=>(.inl (x,13):(Ng×Int)⊕((List Int)×Int))) (r.Nq.zip x.Nb) 0 with ⟨k1,k2⟩ | ⟨j,y,k1,k2,k3⟩
        · rw [k1,k2];rfl
        · rw [k1,k3];rfl
      rw [l0,l1,QHz hrn hsl hrx];cases hb:(r.Nc.drop 1).any (Zm x) with
      | true=>rfl
      | false =>
        cases hl:YN p x.Nb r r.Nc with
        | false=>rfl
        | true =>
          simp only [Bool.not_true,Bool.false_eq_true,if_false,Qn,Xt,cond_false,cond_true,if_true];rw [Qlf (by omega),Qn,Qea _ (by omega),Qn,Jf (by simp;omega)];rfl
    · rw [if_neg h3,decide_eq_false h3];rfl
  simp only [if_neg h1,decide_eq_false h1,cond_false];by_cases h3:e.Kind=3
  · simp only [if_pos h3,decide_eq_true h3,cond_true];rw [if_neg (show ¬ e.Kind=4 by omega),if_pos (show e.Kind=3\/e.Kind=5 from .inl h3),Zf (by omega)];by_cases h5:t.Nl < t.Nd.length
    · rw [if_pos h5,decide_eq_false (show ¬ t.Nl=t.Nd.length by omega)];rfl
    · rw [if_neg h5,decide_eq_true (show t.Nl=t.Nd.length by omega)];rfl
  simp only [if_neg h3,decide_eq_false h3,cond_false];by_cases h4:e.Kind=4
  · simp only [if_pos h4,decide_eq_true h4,cond_true];rw [Zf (by omega)];by_cases h5:1 < t.Nl
    · rw [if_pos h5,decide_eq_false (show ¬ t.Nl=1 by omega),cond_false,Qlf (by omega),Qn,Qea _ (by simp;omega)];rfl
    · rw [if_neg h5,decide_eq_true (show t.Nl=1 by omega)];rfl
  simp only [if_neg h4,decide_eq_false h4,cond_false];by_cases h5:e.Kind=5
  · simp only [if_pos h5,decide_eq_true h5,cond_true];rw [if_pos (show e.Kind=3\/e.Kind=5 from .inr h5)];by_cases h6:t.Nl < t.Nd.length
    · rw [if_pos h6,decide_eq_false (show ¬ t.Nl=t.Nd.length by omega),cond_false,show w64 ((t.Nd.length:Int) - 1)=((t.Nd.length - 1:Nat):Int) by rw [Zf (by omega)];omega,Qcr (by omega),Qn,Qea _ (by simp;omega)];rfl
    · rw [if_neg h6,decide_eq_true (show t.Nl=t.Nd.length by omega)];rfl
  simp only [if_neg h5,decide_eq_false h5,cond_false];rw [if_neg (show ¬ (e.Kind=3\/e.Kind=5) by omega),decide_eq_true (show e.Kind=6 by omega),cond_true];by_cases h6:t.Nd.length=1
  · rw [if_pos h6,decide_eq_false (show ¬ (1:Int) < t.Nd.length by omega)];rfl
  · rw [if_neg h6,decide_eq_true (show (1:Int) < t.Nd.length by omega)];rfl
theorem QRl {p:Nf} (hS:PlantS p) (hp:PlantOk p) {x:Ng} (h:StateOk p x) (e:Nj):Qnn p x e=some (if J0 p x e=0 then (Jb p x e,0) else (x,J0 p x e)):=by
 unfold Qnn J0;rw [Qvj hS,Qn];by_cases h1:Yt p e=0
 ·rw [if_pos h1,decide_eq_true h1,Bool.not_true,cond_false,QDh hp h h1,Qn]
 ·rw [if_neg h1,decide_eq_false h1,if_neg h1];rfl
/-! ### All events -/
theorem QDi {β:Type} (f:Nat->List β) (n:Nat):∀ d:Nat,((List.range (n+d)).flatMap fun b=>if b < n then f b else [])=(List.range n).flatMap f
 | 0=>by
  rw [Nat.add_zero,List.flatMap_def,List.flatMap_def,List.map_congr_left fun b hb=>if_pos (List.mem_range.1 hb)]
 | d+1=>by
  rw [<-Nat.add_assoc,List.range_succ,List.flatMap_append,QDi f n d];have h:¬ n+d < n:=by omega
  simp [h]
theorem QDj {β:Type} (f:Nat->List β) {n N:Nat} (h:n<=N):((List.range N).flatMap fun b=>if b < n then f b else [])=(List.range n).flatMap f:=by
 obtain ⟨d,rfl⟩:∃ d,N=n+d:=⟨N - n,by omega⟩;exact QDi f n d
def Jl (a b:Nat):Nat:=if a < b then b else a
theorem Qub (a b:Nat):(if (a:Int) < (b:Int) then (b:Int) else (a:Int))=((Jl a b:Nat):Int):=by
 unfold Jl;by_cases h:a < b
 ·rw [if_pos h,if_pos (by omega)]
 ·rw [if_neg h,if_neg (by omega)]
theorem Quc (a b:Nat):a<=Jl a b/\b<=Jl a b:=by unfold Jl;split<;>omega
theorem Qud {a b n:Nat} (ha:a<=n) (hb:b<=n):Jl a b<=n:=by unfold Jl;split<;>omega
theorem QRn {p:Nf} (hS:PlantS p) (hp:PlantOk p):Qns p=some (Jj p):=by
  have hs8:=hp.s8;have ht3:=hp.t3;have hw4:=hp.w4;have hr10:=hp.r10;have hB:Jl 2 (Jl p.Nc.length p.Ni.length)<=10:=Qud (by omega) (Qud (by omega) (by omega));have hA:Jl p.Na.length p.Nb.length<=4:=Qud (by omega) (by omega);have eB:(if (2:Int) < (if (p.Nc.length:Int) < (p.Ni.length:Int) then (p.Ni.length:Int) else (p.Nc.length:Int)) then (if (p.Nc.length:Int) < (p.Ni.length:Int) then (p.Ni.length:Int) else (p.Nc.length:Int)) else 2)=((Jl 2 (Jl p.Nc.length p.Ni.length):Nat):Int):=by
    rw [Qub];exact Qub 2 _
  have eA:=Qub p.Na.length p.Nb.length;generalize hBv:Jl 2 (Jl p.Nc.length p.Ni.length)=B at *
  generalize hAv:Jl p.Na.length p.Nb.length=A at *
  have g:∀ k a b,(if Yt p (Yk k a b)=0 then [Yk k a b] else []).length<=1:=fun k a b=>by split<;>simp
  have l0:∀ k:Nat,k < 7->∀ a:Nat,∀ acc:List Nj,acc.length<=1000->loop (Qiy p (k:Int) (a:Int)) (acc,0)=some (acc++(List.range B).flatMap fun b=>if Yt p (Yk k a b)=0 then [Yk k a b] else [])/\(acc++(List.range B).flatMap fun b=>if Yt p (Yk k a b)=0 then [Yk k a b] else []).length<=acc.length+B * 1 :=
    fun k hk a acc hacc=>Qgc (step:=Qiy p (k:Int) (a:Int)) B 1 (fun b=>if Yt p (Yk k a b)=0 then [Yk k a b] else []) (fun b acc=>(acc,(b:Int))) (fun acc=>acc) acc (fun b _=>g k a b) (fun b hb acc' hl=>by
      unfold Qiy;simp only [eB,XQ hb,cond_true];rw [show (Nj.mk (k:Int) (a:Int) (b:Int))=Yk k a b from rfl,Qvj hS,Qn];by_cases h3:Yt p (Yk k a b)=0
      · rw [decide_eq_true h3,cond_true,Jf (by simp;omega),Qn,XK b (by omega),if_pos h3]
      · rw [decide_eq_false h3,cond_false,XK b (by omega),if_neg h3,List.append_nil]) (fun acc'=>by
      unfold Qiy;simp only [eB,XS];rfl)
  have l1:∀ k:Nat,k < 7->∀ acc:List Nj,acc.length<=500->loop (Qiz p (k:Int)) (acc,0)=some (acc++(List.range A).flatMap fun a=>(List.range B).flatMap fun b=>if Yt p (Yk k a b)=0 then [Yk k a b] else [])/\(acc++(List.range A).flatMap fun a=>(List.range B).flatMap fun b=>if Yt p (Yk k a b)=0 then [Yk k a b] else []).length<=acc.length+A * 10 :=
    fun k hk acc hacc=>Qgc (step:=Qiz p (k:Int)) A 10 (fun a=>(List.range B).flatMap fun b=>if Yt p (Yk k a b)=0 then [Yk k a b] else []) (fun a acc=>(acc,(a:Int))) (fun acc=>acc) acc (fun a ha=>by
      have:=(l0 k hk a [] (by simp)).2;simp only [List.nil_append,List.length_nil] at this;omega) (fun a ha acc' hl=>by
      have hl2:a * 10<=40:=by omega
      unfold Qiz;simp only [eA,XQ ha,cond_true];rw [(l0 k hk a acc' (by omega)).1,Qn,XK a (by omega)]) (fun acc'=>by
      unfold Qiz;simp only [eA,XS];rfl)
  have l2 : loop (Qnr p) (([] : List Nj), 0) = _ := (Qgc (step := Qnr p) 7 40 (fun k => (List.range A).flatMap fun a => (List.range B).flatMap fun b => if Yt p (Yk k a b) = 0 then [Yk k a b] else []) (fun k acc => (acc, (k : Int))) (fun acc => acc) [] (fun k hk => by
      have:=(l1 k hk [] (by simp)).2;simp only [List.nil_append,List.length_nil] at this;omega) (fun k hk acc hl=>by
      unfold Qnr;simp only [show decide ((k:Int) < 7)=true by rw [decide_eq_true_eq];omega,cond_true];rw [(l1 k hk acc (by simp at hl;omega)).1,Qn,XK k (by omega)]) (fun acc=>by rfl)).1
  unfold Qns;rw [l2,Qn,List.nil_append];unfold Jj;congr 1;rw [List.flatMap_def,List.flatMap_def,List.map_congr_left fun k hk=>?_];have hk:=List.mem_range.1 hk;have hAs:Zs p k<=A:=by unfold Zs;rw [<-hAv];have:=Quc p.Na.length p.Nb.length;split<;>omega
  have hBs:YY p k<=B:=by
    unfold YY;rw [<-hBv];have h1:=Quc p.Nc.length p.Ni.length;have h2:=Quc 2 (Jl p.Nc.length p.Ni.length);split<;>(try split)<;>(try split)<;>omega
  have e1:∀ a,((List.range B).flatMap fun b=>if Yt p (Yk k a b)=0 then [Yk k a b] else [])=if a < Zs p k then ((List.range (YY p k)).flatMap fun b=>[Yk k a b]) else []:=fun a=>by
    by_cases ha:a < Zs p k
    · rw [if_pos ha,<-QDj (fun b=>[Yk k a b]) hBs];rw [List.flatMap_def,List.flatMap_def,List.map_congr_left fun b _=>?_];by_cases hb:b < YY p k
      · rw [if_pos hb,if_pos ((Qhz hk).2 ⟨ha,hb⟩)]
      · rw [if_neg hb,if_neg fun h=>hb ((Qhz hk).1 h).2]
    · rw [if_neg ha];rw [List.flatMap_eq_nil_iff];intro b _;rw [if_neg fun h=>ha ((Qhz hk).1 h).1]
  simp only [e1];exact QDj (fun a=>(List.range (YY p k)).flatMap fun b=>[Yk k a b]) hAs
/-! ### What lies in a list and meets a test -/
def Qat {α β:Type} (p:α->Bool) (g:Nat->α->β):Nat->List α->List β
 | _,[]=>[]
 | k,x::l=>if p x=true then g k x::Qat p g (k+1) l else Qat p g (k+1) l
theorem Qzp {α:Type} (p:α->Bool):∀ (l:List α) (k:Nat),Qat p (fun _ x=>x) k l=l.filter p
 | [],k=>rfl
 | x::l,k=>by
  unfold Qat;rw [Qzp p l,List.filter_cons]
theorem Qzq {α β:Type} (g:α->β):∀ (l:List α) (k:Nat),Qat (fun _=>true) (fun _ x=>g x) k l=l.map g
 | [],k=>rfl
 | x::l,k=>by
  unfold Qat;rw [Qzq g l];rfl
theorem QBi {α β σ ρ:Type} {step:σ->Option (σ⊕ρ)} (l:List α) (p:α->Bool) (g:Nat->α->β) (S:List β->Nat->σ) (o:List β->ρ)
  (hs:∀ k (hk:k < l.length) acc,acc.length<=k->step (S acc k)=some (.inl (S (if p l[k]=true then acc++[g k l[k]] else acc) (k+1)))) (he:∀ acc,step (S acc l.length)=some (.inr (o acc))):loop step (S [] 0)=some (o (Qat p g 0 l)):=by
 have key:∀ j k acc,acc.length<=k->j+k=l.length->loop step (S acc k)=some (o (acc++Qat p g k (l.drop k))):=by
  intro j
  induction j with
  | zero =>
   intro k acc _ hk;obtain rfl:k=l.length:=by omega
   rw [List.drop_length];simp only [Qat,List.append_nil];exact Qbl (he acc)
  | succ j ih =>
   intro k acc ha hk;have hlt:k < l.length:=by omega
   rw [List.drop_eq_getElem_cons hlt,Qbk (hs k hlt acc ha)];by_cases hp:p l[k]=true
   ·rw [if_pos hp,ih (k+1) _ (by simp;omega) (by omega)];simp [Qat,hp]
   ·rw [if_neg hp,ih (k+1) _ (by omega) (by omega)];simp [Qat,hp]
 have:=key l.length 0 [] (by simp) (by omega);simpa using this
theorem Qrb {p:Nf} (hp:PlantOk p):(Jj p).length<=280:=by
 have hs8:=hp.s8;have ht3:=hp.t3;have hw4:=hp.w4;have hr10:=hp.r10;have hfl:∀ {β:Type} (f:Nat->List β) (M n:Nat),(∀ k,(f k).length<=M)->((List.range n).flatMap f).length<=n * M:=fun f M n h=>by
  induction n with
  | zero=>simp
  | succ n ih =>
   rw [List.range_succ,List.flatMap_append,List.length_append,Nat.succ_mul];have:=h n;have e:([n]:List Nat).flatMap f=f n:=by simp
   rw [e];omega
 refine hfl _ 40 7 fun k=>?_;have h1:Zs p k<=4:=by unfold Zs;split<;>omega
 have h2:YY p k<=10:=by unfold YY;split<;>(try split)<;>(try split)<;>omega
 have:=hfl (fun a=>(List.range (YY p k)).flatMap fun b=>[Yk k a b]) 10 (Zs p k) fun a=>by
  have:=hfl (fun b=>[Yk k a b]) 1 (YY p k) fun _=>by simp
  omega
 omega
theorem QRq {p:Nf} (hS:PlantS p) (hp:PlantOk p) {x:Ng} (h:StateOk p x):Qnt p x=some (Qax p x):=by
 have hl:=Qrb hp;unfold Qnt;rw [QRn hS hp,Qn];have:=QBi (step:=Qjb p x (Jj p)) (Jj p) (fun e=>decide (Zw p x e=0)) (fun _ e=>e) (fun acc k=>(acc,(k:Int))) (fun acc=>acc) (fun k hk acc ha=>by
  have he:=Qzm (List.getElem_mem hk);unfold Qjb;simp only [XQ hk,cond_true,XA hk,Qn];rw [QDh hp h he];by_cases h3:Zw p x (Jj p)[k]=0
  ·simp only [if_pos h3,Qn,decide_eq_true h3,cond_true,if_true,decide_true];rw [Jf (by simp;omega),Qn,XK k (by omega)]
  ·simp only [if_neg h3,Qn,decide_eq_false h3,cond_false,Bool.false_eq_true,if_false,XK k (show k < 4611686018427387904 by omega)]) (fun acc=>by
  unfold Qjb;simp only [XS];rfl)
 rw [Qzp] at this;have l2:loop (Qjb p x (Jj p)) (([]:List Nj),0)=some (Qax p x):=this;rw [l2];rfl
end Go.Gw

end
section
set_option maxRecDepth 4096
namespace Go.Gw
open Go
attribute [local irreducible] loop
theorem QEt {α:Type} {p:α->Bool}:∀ (l:List α) (m:Nat),(Yn p (fun k _=>(k:Int)) m l=.inr ()/\l.any p=false)\/∃ j,∃ h:j < l.length,Yn p (fun k _=>(k:Int)) m l=.inl ((m+j:Nat):Int)/\p l[j]=true
 | [],m=>.inl ⟨rfl,rfl⟩
 | x::l,m=>by
  by_cases hp:p x=true
  ·exact .inr ⟨0,by simp,by simp [Yn,hp],by simpa using hp⟩
  ·rcases QEt (p:=p) l (m+1) with ⟨h1,h2⟩ | ⟨j,hj,h1,h2⟩
   ·exact .inl ⟨by simp [Yn,hp,h1],by simp [hp,h2]⟩
   ·exact .inr ⟨j+1,by simpa using hj,by simp only [Yn,hp];rw [h1];simp;omega,by simpa using h2⟩
theorem QKn {α:Type} (p:α->Bool) (l:List α):(Qau p l=-1/\l.any p=false)\/∃ j,∃ h:j < l.length,Qau p l=(j:Int)/\p l[j]=true:=by
 unfold Qau;rcases QEt (p:=p) l 0 with ⟨h1,h2⟩ | ⟨j,hj,h1,h2⟩
 ·exact .inl ⟨by rw [h1],h2⟩
 ·exact .inr ⟨j,hj,by rw [h1];simp,h2⟩
theorem QCj {α:Type} {l:List α} (h:l.Nodup) {i j:Nat} (hi:i < l.length) (hj:j < l.length) (e:l[i]=l[j]):i=j:=by
 unfold List.Nodup at h;rw [List.pairwise_iff_getElem] at h;rcases Nat.lt_trichotomy i j with h1 | h1 | h1
 ·exact absurd e (h i j hi hj h1)
 ·exact h1
 ·exact absurd e.symm (h j i hj hi h1)
theorem QKs {p:Nf} (hp:PlantOk p) {x:Ng} (h2:x.Nb.length=p.Nb.length) (a b:Int):Qmp (some ⟨p,x⟩) a b=some (J1 p x.Nb a b):=by
  have hw4:=hp.w4;have hr10:=hp.r10;have hs8:=hp.s8;unfold Qmp J1;rw [Qn,Y0 p.Ni (fun r=>Ja r a b&&YN p x.Nb r [a,b]) (fun _ _=>true),Qn]
  · rcases ZY (p:=fun r=>Ja r a b&&YN p x.Nb r [a,b]) (res:=fun _ _=>true) p.Ni 0 with ⟨k1,k2⟩ | ⟨j,y,k1,k2,k3⟩
    · rw [k1,k2];rfl
    · rw [k1,k3];rfl
  · intro k hk;have hr:=List.getElem_mem hk;unfold Qtu;simp only [XQ hk,cond_true,XA hk,Qn];generalize p.Ni[k]=r at hr ⊢;have hr2:=hp.r2 r hr;have hr8:=hp.r8 r hr;have hrd:=hp.rd r hr;rw [QAh _ _ (by omega),Qn,QAq (hp.rn r hr) h2 (by omega) (by simp),XK k (by omega)];rcases QKn (fun x=>decide (a=x)) r.Nc with ⟨h3,h4⟩ | ⟨j,hj,h3,h4⟩
    · rw [h3];have h5:Ja r a b=false:=by
        cases hb:Ja r a b with
        | false=>rfl
        | true =>
          obtain ⟨j,hj,h6,_⟩:=pairB_iff.1 hb;rw [Qyh,decide_eq_false_iff_not] at h4;exact absurd (h6▸List.getElem_mem _) h4
      rw [h5];rfl
    · rw [h3];have h4:a=r.Nc[j]:=by simpa using h4
      rw [decide_eq_true (show (0:Int)<=(j:Int) by omega),XK j (by omega)];by_cases h5:j+1 < r.Nc.length
      · rw [XQ h5];simp only [Bool.and_self,cond_true];rw [XA h5,Qn];have h6:Ja r a b=decide (r.Nc[j+1]=b):=by
          rw [Bool.eq_iff_iff,pairB_iff,decide_eq_true_eq];constructor
          · rintro ⟨i,hi,h7,h8⟩;have:i=j:=QCj hrd (by omega) hj (h7.trans h4);subst this;exact h8
          · intro h7;exact ⟨j,h5,h4.symm,h7⟩
        rw [h6];cases decide (r.Nc[j+1]=b)<;>rfl
      · rw [decide_eq_false (show ¬ ((j+1:Nat):Int) < r.Nc.length by omega)];have h6:Ja r a b=false:=by
          cases hb:Ja r a b with
          | false=>rfl
          | true =>
            obtain ⟨i,hi,h7,_⟩:=pairB_iff.1 hb;have:i=j:=QCj hrd (by omega) hj (h7.trans h4);omega
        rw [h6];rfl
  · unfold Qtu;simp only [XS];rfl
theorem Qzs {α:Type} (g:α->Bool):∀ (l:List α) (k:Nat) (b:Bool),fld (fun (_:Nat) (a:Bool) (x:α)=>a||g x) k b l=(b||l.any g)
 | [],k,b=>by simp [fld]
 | x::l,k,b=>by
  unfold fld;rw [Qzs g l];simp [Bool.or_assoc]
theorem QHs (l:List Nk) (h:∀ t∈l,t.Nd.length < 1000) (hl:l.length < 1000) (s:Int) (b:Bool):loop (Qig s l) (b,0)=some (b||l.any fun o=>decide (s∈o.Nd)):=by
 have:=(QBj (step:=Qig s l) l (fun _ (c:Bool) o=>c||decide (s∈o.Nd)) (fun c k=>(c,(k:Int))) (fun c=>c) (fun _ _=>True) b trivial (fun k hk c _=>by
  refine ⟨?_,trivial⟩;unfold Qig;simp only [XQ hk,cond_true,XA hk,Qn,XK k (show k < 4611686018427387904 by omega),Qfn _ _ (show l[k].Nd.length < 1000000 by have:=h _ (List.getElem_mem hk);omega)];cases c<;>rfl) (fun c _=>by
  unfold Qig;simp only [XS];rfl)).1
 rw [Qzs] at this;exact this
theorem QVy (t:Nk):JC t.Nl (if (t.Nd.length:Int) < 1 then (t.Nd.length:Int) else 1) (t.Nd.length:Int)=some (J9 t):=by
 rw [Qxj];congr 1;unfold J9;by_cases h0:t.Nd.length=0
 ·rw [if_pos h0,if_pos (show (t.Nd.length:Int) < 1 by omega),Bool.eq_iff_iff];simp only [Bool.and_eq_true,decide_eq_true_eq];omega
 ·rw [if_neg h0,if_neg (show ¬ (t.Nd.length:Int) < 1 by omega)]
theorem QKp {p:Nf} (hS:PlantS p) (hp:PlantOk p) {x:Ng} (h:StateS x) (h2:x.Nb.length=p.Nb.length) (n:Nat) (hn:n < x.Na.length):Qmn (some ⟨p,x⟩) (n:Int)=some (JN p x n):=by
  have hs:JN p x n=tsE p x n x.Na[n]:=Z6 _ _ _ hn;have hc:=h.ch _ (List.getElem_mem hn);have hl:=h.tr;rw [hs];unfold Qmn tsE;simp only [Qn,XA hn];rw [QVy,Qn];cases J9 x.Na[n]
  · rfl
  simp only [Bool.not_true,cond_false,cond_true];have key:loop (Qmm x.Na[n] (some ⟨p,x⟩) (n:Int)) 0=some (match XP (Jt p x n x.Na[n]) x.Na[n].Nd.length with | some i=>.inl (Jt p x n x.Na[n] i) | none=>.inr ()) :=
    Qak (fun k=>(k:Int)) x.Na[n].Nd.length (Jt p x n x.Na[n]) (fun _ e=>e) () (fun k hk _=>by
      have hs:Jt p x n x.Na[n] k=chE p x n x.Na[n] k x.Na[n].Nd[k]:=Z6 _ _ _ hk;rw [hs];unfold Qmm chE;simp only [XQ hk,cond_true,XA hk,Qn];rw [Qcr (by omega),Qn,Qfn _ _ (by simp;omega),Qn,Qcr (by omega),Qn,
        QHs _ (fun t ht=>h.ch t (List.mem_of_mem_take ht)) (by simp;omega),Qn,QEh hS,Qn,YK,Qn,XK k (by omega)]
      generalize (decide (x.Na[n].Nd[k]∈x.Na[n].Nd.take k)||(x.Na.take n).any fun o=>decide (x.Na[n].Nd[k]∈o.Nd))=bb;by_cases hk0:k=0
      · subst hk0;simp only [Int.natCast_zero,decide_true,Bool.not_true,cond_false,Qn,Bool.true_or,if_true,YK,cond_true];rw [ZF _ (by simp),Qn,Qfs];cases YA p x.Na[n].Nd[0]<;>cases bb<;>rfl
      · rw [decide_eq_false (show ¬ (k : Int) = 0 by omega), show w64 ((k : Int) - 1) = ((k - 1 : Nat) : Int) by rw [Zf (by omega)]; omega,
          show (if (0:Int) < ((k - 1:Nat):Int) then ((k - 1:Nat):Int) else 0)=((k - 1:Nat):Int) by split<;>omega]
        simp only [Bool.not_false,cond_true,XA (show k - 1 < x.Na[n].Nd.length by omega),Qn,QKs hp h2,if_neg hk0,List.getElem?_eq_getElem (show k - 1 < x.Na[n].Nd.length by omega),Option.getD_some,Bool.false_or,YK];rw [ZF _ (by simp),Qn,Qfs];cases YA p x.Na[n].Nd[k]<;>cases bb<;>cases J1 p x.Nb x.Na[n].Nd[k - 1] x.Na[n].Nd[k]<;>rfl) (fun _=>by
      unfold Qmm;simp only [XS];rfl)
  rw [key,Qn];cases XP (Jt p x n x.Na[n]) x.Na[n].Nd.length<;>rfl
theorem QRc (l:List Int) (hl:l.length < 1000):Qou l=some (!(l.all YW)):=by
 unfold Qou Qwm;rw [Y0 l (fun n=>!(YW n)) (fun k _=>(k:Int)),Qn,Qev,Qn,Qjv]
 ·rw [List.all_eq_not_any_not,Bool.not_not]
 ·intro k hk;unfold Qwl;rw [XQ hk,XA hk,XK k (by omega)];rfl
 ·unfold Qwl;rw [XS];rfl
def ZP (p:Nf) (x:Ng):Int:=if (ZQ p).2=0 then Qew p x else (ZQ p).2
theorem Qvd {p:Nf} (hS:PlantS p) {x:Ng} (h:StateS x):Qga p x=some (if ZP p x=0 then (some ⟨p,x⟩,0) else (none,ZP p x)):=by
  have h1:=h.sw;have h2:=h.tr;have h3:=hS.sw;have h4:=hS.tr;unfold Qga ZP;rw [QRc _ (by omega),Qn,QDa hS,Qn,YK,Qn,Bool.not_not];by_cases hp0:(ZQ p).2=0
  · have hp:=Qnk hp0;simp only [if_pos hp0,hp0];unfold Qew;by_cases hl:x.Nb.length=p.Nb.length/\x.Na.length=p.Na.length
    · rw [if_pos hl,decide_eq_true (show (x.Nb.length:Int)=p.Nb.length by omega),decide_eq_true (show (x.Na.length:Int)=p.Na.length by omega)];have e1:∀ (f:Bool->Option (Option Np×Int)),(Option.bind (bif x.Nb.all YW then Qcx x.Nh else some default) f)=f (bif x.Nb.all YW then Qbg x.Nh else default):=fun f=>by
        cases x.Nb.all YW<;>rfl
      rw [e1,YK,Qn,ZF _ (by simp),Qn,Qfs];cases ha:x.Nb.all YW
      · rfl
      · cases hb:Qbg x.Nh
        · rfl
        · simp only [Bool.and_self,cond_true,ne_eq,not_true_eq_false,if_false,decide_true,Bool.not_true,cond_false];have key:loop (Qmu p x) 0=some (match XP (JN p x) x.Na.length with | some i=>.inl (none,JN p x i) | none=>.inr ()) :=
            Qak (fun k=>(k:Int)) x.Na.length (JN p x) (fun _ e=>(none,e)) () (fun k hk _=>by
              unfold Qmu;rw [XQ hk,cond_true,QKp hS hp h hl.1 k hk,Qn,XK k (by omega)];by_cases h5:JN p x k=0
              · rw [if_pos h5,decide_eq_true h5];rfl
              · rw [if_neg h5,decide_eq_false h5];rfl) (fun _=>by
              unfold Qmu;rw [XS];rfl)
          rw [key,Qn];cases hf:XP (JN p x) x.Na.length with
          | some i =>
            have h5:=(Qah hf).2.1;simp [Xt,h5]
          | none=>rfl
    · rw [if_neg hl, show (decide ((x.Nb.length : Int) = p.Nb.length) && decide ((x.Na.length : Int) = p.Na.length)) = false by
        rw [Bool.and_eq_false_iff,decide_eq_false_iff_not,decide_eq_false_iff_not];omega]
      have e1:∀ (f:Bool->Option (Option Np×Int)),(Option.bind (bif x.Nb.all YW then Qcx x.Nh else some default) f)=f (bif x.Nb.all YW then Qbg x.Nh else default):=fun f=>by
        cases x.Nb.all YW<;>rfl
      rw [e1,YK,Qn,ZF _ (by simp),Qn,Qfs];rfl
  · simp only [if_neg hp0];have e1:∀ (f:Bool->Option (Option Np×Int)),(Option.bind (bif x.Nb.all YW then Qcx x.Nh else some default) f)=f (bif x.Nb.all YW then Qbg x.Nh else default):=fun f=>by
      cases x.Nb.all YW<;>rfl
    rw [e1,YK,Qn,ZF _ (by simp),Qn,Qfs,if_pos hp0,decide_eq_false hp0];rfl
theorem Qve {p:Nf} {x:Ng} (h:ZP p x=0):PlantOk p/\StateOk p x/\(ZQ p).2=0:=by
 unfold ZP at h;by_cases hp0:(ZQ p).2=0
 ·rw [if_pos hp0] at h;exact ⟨Qnk hp0,state_iff.1 h,hp0⟩
 ·rw [if_neg hp0] at h;exact absurd h hp0
theorem QQt {p:Nf} {x:Ng} (h0:(ZQ p).2=0) (h:StateOk p x):ZP p x=0:=by
 unfold ZP;rw [if_pos h0];exact state_iff.2 h
theorem QKr {p:Nf} (hS:PlantS p) {x:Ng} (h:StateS x):Qmh p x=some (ZP p x):=by
 unfold Qmh;rw [Qvd hS h,Qn];by_cases h0:ZP p x=0
 ·rw [if_pos h0,h0]
 ·rw [if_neg h0]
theorem QKq {p:Nf} (hS:PlantS p) (e:Nj):Qmd p e=some (if (ZQ p).2=0 then Yt p e else (ZQ p).2):=by
 unfold Qmd Qtl;rw [QDa hS,Qn,Qn];by_cases h0:(ZQ p).2=0
 ·rw [if_pos h0,decide_eq_true h0,Bool.not_true,cond_false,Qzn hS,Qn,Qn,ZF _ (by simp),Qn,Qso,h0];by_cases h1:Yt p e=0
  ·simp [h1]
  ·simp
 ·rw [if_neg h0,decide_eq_false h0,Bool.not_false,cond_true,Qn,ZF _ (by simp),Qn,Qso,if_pos h0]
def Qkw (p:Nf) (x:Ng) (e:Nj):Ng×Int:=if ZP p x=0 then (if J0 p x e=0 then (Jb p x e,0) else (Qfg,J0 p x e)) else (Qfg,ZP p x)
theorem QAi {p:Nf} (hS:PlantS p) {x:Ng} (h:StateS x) (e:Nj):Qie p x e=some (Qkw p x e):=by
 unfold Qie Qkw;rw [Qvd hS h,Qn];by_cases h0:ZP p x=0
 ·obtain ⟨hp,hx,_⟩:=Qve h0;simp only [if_pos h0,decide_true,cond_true];rw [Qzn hS,Qn,Qn];unfold J0;by_cases h1:Yt p e=0
  ·obtain ⟨r,hr,h2,h3⟩:=Qyl hp hx h1;simp only [if_pos h1,decide_eq_true h1,cond_true];rw [hr,Qn,Qn,h2];by_cases h4:Zw p x e=0
   ·rw [if_pos h4,h3 h4,decide_eq_true h4];simp only [Bool.not_true,cond_false];rw [QVw p ((QEw hp hx h1 h4).s hp)];rfl
   ·rw [if_neg h4,decide_eq_false h4];rfl
  ·simp only [if_neg h1,decide_eq_false h1,cond_false,Qn,Bool.not_false,cond_true];rfl
 ·simp only [if_neg h0,decide_eq_false h0,cond_false,Qn,Bool.not_false,cond_true];rfl
theorem QKt {p:Nf} (hS:PlantS p) {x:Ng} (h:StateS x):Qmj p x=some (if ZP p x=0 then (Qax p x,0) else ([],ZP p x)):=by
  unfold Qmj;rw [Qvd hS h,Qn];by_cases h0:ZP p x=0
  · obtain ⟨hp,hx,_⟩:=Qve h0;simp only [if_pos h0,decide_true,Bool.not_true,cond_false];rw [QRf hp hx,Qn];have hl:(ZC p x (Jj p)).length<=280:=by
      unfold ZC;rw [List.length_map];exact Nat.le_trans (List.length_filter_le _ _) (Qrb hp)
    have:=QBi (step:=Qif (ZC p x (Jj p))) (ZC p x (Jj p)) (fun _=>true) (fun _ s=>s.Ny) (fun acc k=>(acc,(k:Int))) (fun acc=>acc) (fun k hk acc ha=>by
      unfold Qif;simp only [XQ hk,cond_true,XA hk,Qn,if_true];rw [Jf (by simp;omega),Qn,XK k (by omega)]) (fun acc=>by
      unfold Qif;simp only [XS];rfl)
    rw [Qzq] at this;have l2:loop (Qif (ZC p x (Jj p))) (([]:List Nj),0)=_:=this;rw [l2,Qn];congr 2;unfold ZC Qax;rw [List.map_map];exact List.map_id _
  · simp only [if_neg h0,decide_eq_false h0,Bool.not_false,cond_true]
/-! ### Telegrams -/
end Go.Gw

end
section
set_option maxRecDepth 4096
namespace Go.Gw
open Go
attribute [local irreducible] loop
theorem Qjw (x:Ng):Ng.mk x.Nb x.Na x.Nh=x:=rfl
theorem Qxo:StateS Qfg:=⟨by simp [Qfg],by simp [Qfg],fun t ht=>by simp [Qfg] at ht⟩
theorem Qxp:(Ng.mk ([]:List Int) ([]:List Nk) 0)=Qfg:=rfl
theorem Qop {x:Ng} (h:StateS x):Qes x x=some true:=by rw [QTg h,decide_eq_true rfl]
theorem QHr {p:Nf} (hS:PlantS p) {x:Ng} (h:StateS x):Qmb p x=some (ZP p x):=by
 unfold Qmb ZP;rw [QDe hS,Qn];by_cases h0:(ZQ p).2=0
 ·rw [if_pos h0,decide_eq_true h0,Bool.not_true,cond_false,QDg hS (Qnk h0) h];rfl
 ·rw [if_neg h0,decide_eq_false h0];rfl
theorem Qtc {p:Nf} {x:Ng} {F:Bool->Bool->Option Bool} (h0:∀ b,F false b=some true) (h1:F true false=some true) (h2:PlantS p->StateS x->(p.Nc.length<=4\/8 < p.Nc.length)->F true true=some true) :
  (Option.bind (Qeg p) fun r=>Option.bind (bif !(!r) then Qeh x else some default) fun s=>F r s)=some true:=by
 rcases QJp p with ⟨hf,hS,h8⟩ | hf
 ·rw [hf,Qn];rcases QJq x with ⟨hx,hX⟩ | hx
  ·simp only [Bool.not_true,Bool.not_false,cond_true];rw [hx,Qn];exact h2 hS hX h8
  ·simp only [Bool.not_true,Bool.not_false,cond_true];rw [hx,Qn];exact h1
 ·rw [hf,Qn];exact h0 _
end Go.Gw

end
