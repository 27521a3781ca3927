/- Laws of the walk. Condition: each theorem says its own. -/
import Derived.Test.YtibgnokgebjbfaaGreatDoorGwAwakeLock
set_option linter.unusedVariables false
set_option linter.unusedSimpArgs false
set_option linter.unusedSectionVars false
section
set_option maxRecDepth 4096
namespace Go.Gw
open Go
attribute [local irreducible] loop
theorem Qor (l:List Int) (v:Int) (hl:l.length < 1000000):Qdx l v=some (decide (v∈l)):=by
 unfold Qdx;rw [Y2 l (fun x=>decide (x=v)) (fun _ _=>true),Qq]
 ·rcases ZL (p:=fun x=>decide (x=v)) (res:=fun _ _=>true) l 0 with ⟨k1,k2⟩ | ⟨j,x,k1,k2,k3⟩
  ·rw [k1,<-Qti,k2];rfl
  ·rw [k1,<-Qti,k3];rfl
 ·intro k hk;unfold Qnr;rw [XL hk,Xt hk,XE k (by omega)];rfl
 ·unfold Qnr;rw [XM];rfl
theorem QLh (l:List ByteArray) (s:ByteArray) (hl:l.length < 1000000):Qlo l s=some (Qal (fun x=>decide (x=s)) l):=by
 unfold Qlo Qal;rw [Y2 l (fun x=>decide (x=s)) (fun k _=>(k:Int)),Qq,Qfe]
 ·intro k hk;unfold Qra;rw [XL hk,Xt hk,XE k (by omega)];rfl
 ·unfold Qra;rw [XM];rfl
theorem Qwa (l:List ByteArray) (s:ByteArray):(l.any fun x=>decide (x=s))=YH l s:=by
 unfold YH;congr 1;funext x;exact decide_eq_decide.2 eq_comm
theorem Qwb {α:Type} (f:α->ByteArray) (l:List α) (s:ByteArray):(l.any fun x=>decide (f x=s))=YH (l.map f) s:=by
 rw [<-Qwa,List.any_map];rfl
theorem Qxm (l:List ByteArray) (hl:l.length < 1000):Qhm l=some (match Xy (Zd l) l.length with | some i=>((i:Int),Zd l i) | none=>(0,0)):=by
 unfold Qhm;have key:loop (Qhl l) 0=_:=JW (step:=Qhl l) (fun k=>(k:Int)) l.length (Zd l) (fun i e=>((i:Int),e)) () (fun k hk _=>by
  have hs:Zd l k=Zr l[k] (l.take k):=ZG _ _ _ hk;rw [hs];unfold Qhl Zr;rw [XL hk,cond_true,Xt hk,Qq,Qno,Qq];cases J7 l[k]
  ·rfl
  ·simp only [Bool.not_true,cond_false,Qq,cond_true];rw [Qcy (by omega),Qq,QLh _ _ (by simp;omega),Qq,Qov,Qwa,XE k (by omega)];cases YH (l.take k) l[k]<;>rfl) (fun _=>by
  unfold Qhl;rw [XM];rfl)
 rw [key,Qq];cases Xy (Zd l) l.length<;>rfl
theorem Qrv {α ρ:Type} {step:Int->Option (Int⊕(ρ⊕Unit))} (xs:List α) (n:Nat) (hn:n<=xs.length) (p:α->Bool) (c:ρ)
  (hs:∀ k (hk:k < xs.length),k < n->step (k:Int)=(bif p xs[k] then some (.inr (.inl c)) else some (.inl ((k+1:Nat):Int))))
  (he:step (n:Int)=some (.inr (.inr ()))):loop step 0=some (if (xs.take n).any p=true then .inl c else .inr ()):=by
 have hlen:(xs.take n).length=n:=by simp;omega
 rw [Y2 (xs.take n) p (fun _ _=>c) (fun k hk=>by
  rw [hlen] at hk;rw [hs k (by omega) hk];simp only [List.getElem_take]) (by rw [hlen];exact he)]
 rcases ZL (p:=p) (res:=fun _ _=>c) (xs.take n) 0 with ⟨k1,k2⟩ | ⟨j,x,k1,k2,k3⟩
 ·rw [k1,k2];rfl
 ·rw [k1,k3];rfl
theorem QMr {p:Ng} (h:PlantS p) (k:Nat) (hk:k < p.Nc.length):Qlv p k=some (Zt p k):=by
 have h1:=h.sw;have h2:=h.se;have hs:Zt p k=swE p k p.Nc[k]:=ZG _ _ _ hk;have l0:loop (Qlt p.Nc[k] (k:Int) p) 0=some (if (p.Nc.take k).any (fun o=>decide (o.Name=p.Nc[k].Name))=true then .inl 5 else .inr ()) :=
  Qrv p.Nc k (by omega) _ _ (fun j hj hjk=>by
   unfold Qlt;rw [XL hjk,cond_true,Xt hj,Qq,XE j (by omega)]) (by
   unfold Qlt;rw [XM];rfl)
 have l1:loop (Qlu p.Nc[k] (k:Int) p) 0=some (if (p.Nc.take k).any (fun o=>decide (o.Ni=p.Nc[k].Ni))=true then .inl 26 else .inr ()) :=
  Qrv p.Nc k (by omega) _ _ (fun j hj hjk=>by
   unfold Qlu;rw [XL hjk,cond_true,Xt hj,Qq,XE j (by omega)]) (by
   unfold Qlu;rw [XM];rfl)
 rw [hs];unfold Qlv swE swX Zr;rw [Xt hk,Qq,Qno,Qq,l0,l1,Qwb (fun o:Nt=>o.Name),show ZD p.Nc[k].Ni 0 (w64 ((p.Na.length:Int) - 1))=some (Yo p p.Nc[k].Ni) by rw [Qba,Zg (by omega)];rfl];cases J7 p.Nc[k].Name
 ·rfl
 ·cases YH ((p.Nc.take k).map (·.Name)) p.Nc[k].Name
  ·cases Yo p p.Nc[k].Ni
   ·rfl
   ·cases (p.Nc.take k).any (fun o=>decide (o.Ni=p.Nc[k].Ni))<;>rfl
  ·rfl
theorem Qqu (n:Int):ZD n 0 1=some (YN n):=by
 rw [Qba];congr 1;unfold YN;rw [Bool.eq_iff_iff];simp only [Bool.and_eq_true,Bool.or_eq_true,decide_eq_true_eq];omega
theorem QMp {p:Ng} (h:PlantS p) (k:Nat) (hk:k < p.Nj.length):Qls p k=some (Zs p k):=by
 have h1:=h.ro;have h2:=h.se;have h3:=h.sw;obtain ⟨_,hr,hn⟩:=h.rn _ (List.getElem_mem hk);have hs:Zs p k=rtE p k p.Nj[k]:=ZG _ _ _ hk;have l0:loop (Qlp p.Nj[k] p (k:Int)) 0=some (if (p.Nj.take k).any (fun o=>decide (o.Name=p.Nj[k].Name))=true then .inl 5 else .inr ()) :=
  Qrv p.Nj k (by omega) _ _ (fun j hj hjk=>by
   unfold Qlp;rw [XL hjk,cond_true,Xt hj,Qq,XE j (by omega)]) (by
   unfold Qlp;rw [XM];rfl)
 rw [hs];unfold Qls rtE;rw [Xt hk,Qq,Qno,Qq,l0,Qwb (fun o:Nq=>o.Name)];generalize p.Nj[k]=r at hr hn ⊢;have l1:loop (Qlq r p) 0=some (match Xy (Ji p r) r.Na.length with | some i=>.inl (Ji p r i) | none=>.inr ()) :=
  JW (fun k=>(k:Int)) r.Na.length (Ji p r) (fun _ e=>e) () (fun k hk _=>by
   have hs:Ji p r k=rsE p r k r.Na[k]:=ZG _ _ _ hk;rw [hs];unfold Qlq rsE;rw [XL hk,cond_true,Xt hk,Qq,show ZD r.Na[k] 0 (w64 ((p.Na.length:Int) - 1))=some (Yo p r.Na[k]) by rw [Qba,Zg (by omega)];rfl,Qq,Qcy (by omega),Qq,Qq,Qor _ _ (by simp;omega),Qq,XE k (by omega)];cases Yo p r.Na[k]<;>cases decide (r.Na[k]∈r.Na.take k)<;>rfl) (fun _=>by
   unfold Qlq;rw [XM];rfl)
 have l2:r.Nr.length=p.Nc.length->loop (Qlr r p) 0=some (X7 (J8 r) (fun _ _=>(2:Int)) 0 (r.Nr.zip p.Nc)):=fun he =>
  Y2 (r.Nr.zip p.Nc) _ _ (fun k hk=>by
   rw [Qnc he] at hk;unfold Qlr;rw [XL hk,cond_true,Xt (show k < p.Nc.length by omega),Qq,Qor _ _ (by omega),Qq,Xt hk,XE k (by omega)];simp only [List.getElem_zip,J8,Qq,Qqu];cases decide (p.Nc[k].Ni∈r.Na)<;>rfl) (by
   rw [Qnc he];unfold Qlr;rw [XM];rfl)
 unfold Zr;cases J7 r.Name
 ·rfl
 ·cases YH ((p.Nj.take k).map (·.Name)) r.Name
  ·simp only [Bool.not_true,cond_false,cond_true,Qq,Xj,if_true,Bool.false_eq_true,if_false];unfold rtX;by_cases h4:r.Na.length < 2
   ·rw [if_pos h4,decide_eq_true (show (r.Na.length:Int) < 2 by omega)];rfl
   rw [if_neg h4,decide_eq_false (show ¬ (r.Na.length:Int) < 2 by omega)];by_cases h5:p.Na.length < r.Na.length
   ·rw [if_pos h5,decide_eq_true (show (p.Na.length:Int) < r.Na.length by omega)];rfl
   rw [if_neg h5,decide_eq_false (show ¬ (p.Na.length:Int) < r.Na.length by omega),l1];simp only [cond_false,Qq];cases Xy (Ji p r) r.Na.length with
   | some i=>rfl
   | none =>
    simp only [Xj];by_cases h6:r.Nr.length=p.Nc.length
    ·rw [if_pos h6,decide_eq_true (show (r.Nr.length:Int)=p.Nc.length by omega),Bool.not_true,cond_false,l2 h6,Qq];rcases ZL (p:=J8 r) (res:=fun _ _=>(2:Int)) (r.Nr.zip p.Nc) 0 with ⟨k1,k2⟩ | ⟨j,x,k1,k2,k3⟩
     ·rw [k1,k2];rfl
     ·rw [k1,k3];rfl
    ·rw [if_neg h6,decide_eq_false (show ¬ (r.Nr.length:Int)=p.Nc.length by omega)];rfl
  ·rfl
theorem QMk {p:Ng} (h:PlantS p):Qlf p=some (ZJ p):=by
  have h3:=h.sw;have h4:=h.ro;have l0:loop (Qld p) 0=some (match Xy (Zt p) p.Nc.length with | some i=>.inl (Np.mk 3 i,Zt p i) | none=>.inr ()) :=
    JW (fun k=>(k:Int)) p.Nc.length (Zt p) (fun i e=>(Np.mk 3 i,e)) () (fun k hk _=>by
      unfold Qld;rw [XL hk,cond_true,QMr h k hk,Qq,XE k (by omega)];by_cases h1:Zt p k=0
      · rw [if_pos h1,decide_eq_true h1];rfl
      · rw [if_neg h1,decide_eq_false h1];rfl) (fun _=>by
      unfold Qld;rw [XM];rfl)
  have l1:loop (Qle p) 0=some (match Xy (Zs p) p.Nj.length with | some i=>.inl (Np.mk 4 i,Zs p i) | none=>.inr ()) :=
    JW (fun k=>(k:Int)) p.Nj.length (Zs p) (fun i e=>(Np.mk 4 i,e)) () (fun k hk _=>by
      unfold Qle;rw [XL hk,cond_true,QMp h k hk,Qq,XE k (by omega)];by_cases h1:Zs p k=0
      · rw [if_pos h1,decide_eq_true h1];rfl
      · rw [if_neg h1,decide_eq_false h1];rfl) (fun _=>by
      unfold Qle;rw [XM];rfl)
  unfold Qlf ZJ;by_cases h1:p.Na.length=0\/p.Nb.length=0
  · rw [if_pos h1, show (decide ((p.Na.length : Int) = 0) || decide ((p.Nb.length : Int) = 0)) = true by
      simp only [Bool.or_eq_true,decide_eq_true_eq];omega]
    rfl
  rw [if_neg h1,decide_eq_false (show ¬ (p.Na.length:Int)=0 by omega),decide_eq_false (show ¬ (p.Nb.length:Int)=0 by omega)];simp only [Bool.or_self,cond_false];by_cases h2:8 < p.Na.length\/3 < p.Nb.length\/4 < p.Nc.length\/10 < p.Nj.length
  · rw [if_pos h2, show (((decide (8 < (p.Na.length : Int)) || decide (3 < (p.Nb.length : Int))) || decide (4 < (p.Nc.length : Int))) || decide (10 < (p.Nj.length : Int))) = true by
      simp only [Bool.or_eq_true,decide_eq_true_eq];omega]
    rfl
  rw [if_neg h2, show (((decide (8 < (p.Na.length : Int)) || decide (3 < (p.Nb.length : Int))) || decide (4 < (p.Nc.length : Int))) || decide (10 < (p.Nj.length : Int))) = false by
      rw [decide_eq_false (by omega),decide_eq_false (by omega),decide_eq_false (by omega),decide_eq_false (by omega)];rfl]
  rw [cond_false,Qxm _ h.se,Qxm _ h.tr,l0,l1];have hz:∀ {f:Nat->Int} {n i:Nat},Xy f n=some i->f i≠0:=fun hf=>(JT hf).2.1
  cases h3:Xy (Zd p.Na) p.Na.length with
  | some i=>simp [hz h3]
  | none =>
    simp only [Qq,decide_true,Bool.not_true,cond_false];cases h4:Xy (Zd p.Nb) p.Nb.length with
    | some i=>simp [hz h4]
    | none =>
      simp only [decide_true,Bool.not_true,cond_false];cases h5:Xy (Zt p) p.Nc.length with
      | some i=>rfl
      | none =>
        simp only [Xj];cases h6:Xy (Zs p) p.Nj.length with
        | some i=>rfl
        | none=>rfl
theorem QMo {p:Ng} (h:PlantS p):Qlh p=some (ZJ p).2:=by
 unfold Qlh;rw [QMk h];rfl
/-! ### Copies -/
theorem Qjc (l:List Int) (h:l.length < 1000000):Qbv l=some l:=by
 unfold Qbv;rw [JA (by simp;omega)];rfl
theorem Quf (l:List ByteArray) (h:l.length < 1000000):Qfv l=some l:=by
 unfold Qfv;rw [JA (by simp;omega)];rfl
theorem Qig {α:Type} (l:List α) (k:Nat) (hk:k < l.length):l.take k++[l[k]]=l.take (k+1):=by
 have:=Qrz l id k hk;simp
theorem Qgc {p:Ng} (h:PlantS p):Qch p=some p:=by
 have h1:=h.se;have h2:=h.tr;have h3:=h.sw;have h4:=h.ro;have hl:=Qep (step:=Qhf p) (o:=p.Nj) (fun k=>((k:Int),p.Nj.take k)) p.Nj.length (fun k hk=>by
  obtain ⟨_,hr,hn⟩:=h.rn _ (List.getElem_mem hk);unfold Qhf;simp only [XL hk,cond_true,Xt hk,Qq];rw [Qjc _ (by omega),Qq,Qjc _ (by omega),Qq,JA (by simp;omega),Qq,XE k (by omega),Qig _ _ hk]) (by
  unfold Qhf;simp only [XM,List.take_length];rfl)
 have hl2:loop (Qhf p) (0,([]:List Nq))=some p.Nj:=hl;unfold Qch;rw [Quf _ (by omega),Qq,Quf _ (by omega),Qq,JA (by simp;omega),Qq,Qq];simp only [List.nil_append];rw [hl2];rfl
theorem Qgd {x:Nh} (h:StateS x):Qdj x=some x:=by
 have h1:=h.sw;have h2:=h.tr;have hl:=Qep (step:=Qhg x) (o:=x.Nb) (fun k=>((k:Int),x.Nb.take k)) x.Nb.length (fun k hk=>by
  unfold Qhg;simp only [XL hk,cond_true,Xt hk,Qq];rw [Qjc _ (by have:=h.ch _ (List.getElem_mem hk);omega),Qq,JA (by simp;omega),Qq,XE k (by omega)];show some (Sum.inl (_,x.Nb.take k++[x.Nb[k]]))=_;rw [Qig _ _ hk]) (by
  unfold Qhg;simp only [XM,List.take_length];rfl)
 have hl2:loop (Qhg x) (0,([]:List Nm))=some x.Nb:=hl;unfold Qdj;rw [Qjc _ (by omega),Qq,Qq];simp only;rw [hl2];rfl
/-! ### Equal ones -/
theorem Qvi (a b:List Int) (ha:a.length < 1000000):Qfw a b=some (decide (a=b)):=by
 unfold Qfw;by_cases hl:a.length=b.length
 ·rw [decide_eq_true (by omega),Bool.not_true,cond_false,Y2 (a.zip b) (fun x=>!decide (x.1=x.2)) (fun _ _=>false),Qq,Qoj a b hl]
  ·intro k hk;rw [Qnb hl] at hk;unfold Qns;rw [XL hk,cond_true,Xt hk,Qq,Xt (show k < b.length by omega),Qq,XE k (by omega)];simp only [List.getElem_zip]
  ·rw [Qnb hl];unfold Qns;rw [XM];rfl
 ·rw [decide_eq_false (by omega)];simp only [Bool.not_false,cond_true];rw [decide_eq_false];intro e;exact hl (by rw [e])
theorem QOf {x:Nh} (h:StateS x) (y:Nh):Qhh x y=some (decide (x=y)):=by
  have h1:=h.sw;have h2:=h.tr;cases x with
  | mk sw tr c =>
  cases y with
  | mk sw2 tr2 c2 =>
  simp only at h1 h2;unfold Qhh;simp only [Qvi sw sw2 (by omega),Qq,Nh.mk.injEq];by_cases e1:sw=sw2
  · by_cases e2:c=c2
    · by_cases hl:tr.length=tr2.length
      · rw [decide_eq_true e1,decide_eq_true e2,decide_eq_true (show (tr.length:Int)=tr2.length by omega)];simp only [Bool.not_true,Bool.or_self,cond_false];have key:loop (Qli ⟨sw,tr,c⟩ ⟨sw2,tr2,c2⟩) 0=_:=Y2 (tr.zip tr2) (fun x=>!decide (x.1=x.2)) (fun _ _=>false) (fun k hk=>by
          rw [Qnb hl] at hk;unfold Qli;simp only [XL hk,cond_true,Xt hk,Qq,Xt (show k < tr2.length by omega)];rw [Qvi _ _ (by have:(tr[k]).Nd.length < 1000:=h.ch _ (List.getElem_mem hk);omega),Qq,XE k (by omega)];simp only [List.getElem_zip];cases h3:tr[k] with
          | mk ch un =>
          cases h4:tr2[k]'(by omega) with
          | mk ch2 un2 =>
          simp only [Nm.mk.injEq];by_cases e3:ch=ch2
          · by_cases e4:un=un2
            · simp [e3,e4]
            · simp [e3,e4]
          · simp [e3]) (by
          rw [Qnb hl];unfold Qli;simp only [XM];rfl)
        rw [key,Qq,Qoj tr tr2 hl];simp [e1,e2]
      · rw [decide_eq_false (show ¬ (tr.length:Int)=tr2.length by omega)];have:tr≠tr2:=fun e=>hl (by rw [e])
        simp [this]
    · simp [e2]
  · simp [e1]
/-! ### The Qvm -/
theorem QEq (p:Ng):Qei p=some true/\PlantS p/\(p.Na.length<=4\/8 < p.Na.length)\/Qei p=some false:=by
 unfold Qei;cases hb:(((((decide (4 < (p.Na.length:Int))&&decide ((p.Na.length:Int)<=8))||decide (10 < (p.Na.length:Int)))||decide (5 < (p.Nb.length:Int)))||decide (6 < (p.Nc.length:Int)))||decide (12 < (p.Nj.length:Int))) with
 | true=>exact .inr rfl
 | false =>
  rw [cond_false];simp only [Bool.or_eq_false_iff,Bool.and_eq_false_iff,decide_eq_false_iff_not] at hb;have h1:p.Na.length < 1000:=by omega
  have h2:p.Nb.length < 1000:=by omega
  have h3:p.Nc.length < 1000:=by omega
  have h4:p.Nj.length < 1000:=by omega
  have l0:loop (Qjt p) 0=some (X7 (fun s:ByteArray=>decide (20 < (s.size:Int))) (fun _ _=>false) 0 p.Na):=Y2 p.Na _ _ (fun k hk=>by
   unfold Qjt;rw [XL hk,cond_true,Xt hk,Qq,XE k (by omega)]) (by unfold Qjt;rw [XM];rfl)
  have l1:loop (Qju p) 0=some (X7 (fun s:ByteArray=>decide (20 < (s.size:Int))) (fun _ _=>false) 0 p.Nb):=Y2 p.Nb _ _ (fun k hk=>by
   unfold Qju;rw [XL hk,cond_true,Xt hk,Qq,XE k (by omega)]) (by unfold Qju;rw [XM];rfl)
  have l2:loop (Qjv p) 0=some (X7 (fun s:Nt=>decide (20 < (s.Name.size:Int))) (fun _ _=>false) 0 p.Nc):=Y2 p.Nc _ _ (fun k hk=>by
   unfold Qjv;rw [XL hk,cond_true,Xt hk,Qq,XE k (by omega)]) (by unfold Qjv;rw [XM];rfl)
  have l3:loop (Qjw p) 0=some (X7 (fun r:Nq=>decide (20 < (r.Name.size:Int))||(decide (10 < (r.Na.length:Int))||decide (6 < (r.Nr.length:Int)))) (fun _ _=>false) 0 p.Nj):=Y2 p.Nj _ _ (fun k hk=>by
   unfold Qjw;simp only [XL hk,cond_true,Xt hk,Qq,XE k (show k < 4611686018427387904 by omega)];cases decide (20 < (p.Nj[k].Name.size:Int))<;>cases decide (10 < (p.Nj[k].Na.length:Int))<;>cases decide (6 < (p.Nj[k].Nr.length:Int))<;>rfl) (by unfold Qjw;rw [XM];rfl)
  rw [l0,l1,l2,l3];simp only [Qq];rcases ZL (p:=fun s:ByteArray=>decide (20 < (s.size:Int))) (res:=fun _ _=>false) p.Na 0 with ⟨k1,k2⟩ | ⟨j,x,k1,k2,k3⟩
  ·rw [k1];rcases ZL (p:=fun s:ByteArray=>decide (20 < (s.size:Int))) (res:=fun _ _=>false) p.Nb 0 with ⟨m1,m2⟩ | ⟨j,x,m1,m2,m3⟩
   ·rw [m1];rcases ZL (p:=fun s:Nt=>decide (20 < (s.Name.size:Int))) (res:=fun _ _=>false) p.Nc 0 with ⟨n1,n2⟩ | ⟨j,x,n1,n2,n3⟩
    ·rw [n1];rcases ZL (p:=fun r:Nq=>decide (20 < (r.Name.size:Int))||(decide (10 < (r.Na.length:Int))||decide (6 < (r.Nr.length:Int)))) (res:=fun _ _=>false) p.Nj 0 with ⟨o1,o2⟩ | ⟨j,x,o1,o2,o3⟩
     ·rw [o1];rw [List.any_eq_false] at k2 m2 n2 o2;refine .inl ⟨rfl,⟨h1,h2,h3,h4,fun s hs=>?_,fun s hs=>?_,fun s hs=>?_,fun r hr=>?_⟩,by omega⟩
      ·have:=k2 s hs;simp at this;omega
      ·have:=m2 s hs;simp at this;omega
      ·have:=n2 s hs;simp at this;omega
      ·have:=o2 r hr;simp at this;omega
     ·rw [o1];exact .inr rfl
    ·rw [n1];exact .inr rfl
   ·rw [m1];exact .inr rfl
  ·rw [k1];exact .inr rfl
theorem QEr (x:Nh):Qej x=some true/\StateS x\/Qej x=some false:=by
 unfold Qej;cases hb:(decide (6 < (x.Nc.length:Int))||decide (5 < (x.Nb.length:Int))) with
 | true=>exact .inr rfl
 | false =>
  rw [cond_false];simp only [Bool.or_eq_false_iff,decide_eq_false_iff_not] at hb;have l0:loop (Qjx x) 0=some (X7 (fun t:Nm=>decide (10 < (t.Nd.length:Int))) (fun _ _=>false) 0 x.Nb):=Y2 x.Nb _ _ (fun k hk=>by
   unfold Qjx;rw [XL hk,cond_true,Xt hk,Qq,XE k (by omega)]) (by unfold Qjx;rw [XM];rfl)
  rw [l0,Qq];rcases ZL (p:=fun t:Nm=>decide (10 < (t.Nd.length:Int))) (res:=fun _ _=>false) x.Nb 0 with ⟨k1,k2⟩ | ⟨j,y,k1,k2,k3⟩
  ·rw [k1];rw [List.any_eq_false] at k2;refine .inl ⟨rfl,by omega,by omega,fun t ht=>?_⟩;have:=k2 t ht;simp at this;omega
  ·rw [k1];exact .inr rfl
end Go.Gw

end
section
set_option maxRecDepth 4096
namespace Go.Gw
open Go
attribute [local irreducible] loop
theorem Qxn {p:Ng} (h:PlantS p) (n:Int):Qhi p n=some (bif Yo p n then 0 else 6):=by
 have:=h.se;unfold Qhi;rw [Qba,Zg (by omega),Qq];show (bif !(Yo p n) then _ else _)=_;cases Yo p n<;>rfl
theorem QMs {p:Ng} (h:PlantS p) (n:Int):Qll p n=some (bif Z8 p n then 0 else 6):=by
 have:=h.tr;unfold Qll;rw [Qba,Zg (by omega),Qq];show (bif !(Z8 p n) then _ else _)=_;cases Z8 p n<;>rfl
theorem QMl {p:Ng} (h:PlantS p) (e:Nl):Qlg p e=some (Ym p e):=by
  have h1:=h.sw;have h2:=h.ro;unfold Qlg Ym;rw [Qba,Qq];by_cases hk:0<=e.Kind/\e.Kind<=6
  · rw [if_neg (by omega),show (decide (0<=e.Kind)&&decide (e.Kind<=6))=true by simp [hk.1,hk.2]];simp only [Bool.not_true,cond_false];by_cases h2:e.Kind=2
    · rw [if_pos h2,decide_eq_true h2,cond_true,Qba,Zg (by omega),Qq,Qqu];show (bif !(Qck p e.A) then _ else _)=_;cases Qck p e.A<;>cases YN e.B<;>rfl
    · rw [if_neg h2,decide_eq_false h2,cond_false,QMs h,Qq,Qxn h,Qq,Qba,Zg (by omega),Qq];cases Z8 p e.A
      · rfl
      simp only [cond_true,decide_true,Bool.not_true,cond_false];by_cases h0:e.Kind=0
      · rw [if_pos h0,decide_eq_true h0];rfl
      · rw [if_neg h0,decide_eq_false h0,cond_false];by_cases h1:e.Kind=1
        · rw [if_pos h1,decide_eq_true h1,cond_true];show (bif !(Qci p e.B) then _ else _)=_;cases Qci p e.B<;>rfl
        · rw [if_neg h1,decide_eq_false h1,cond_false];by_cases h3:e.B=0
          · rw [if_pos h3,decide_eq_true h3];rfl
          · rw [if_neg h3,decide_eq_false h3];rfl
  · rw [if_pos hk, show (decide (0 <= e.Kind) && decide (e.Kind <= 6)) = false by
      rw [Bool.and_eq_false_iff,decide_eq_false_iff_not,decide_eq_false_iff_not];omega]
    rfl
/-! ### Which section leads to which -/
theorem Quu {α:Type} (g:α->Bool):∀ (l:List α) (k:Nat) (b:Bool),J4 (fun (_:Nat) (a:Bool) (x:α)=>a&&!(g x)) k b l=(b&&!(l.any g))
 | [],k,b=>by simp [J4]
 | x::l,k,b=>by
  unfold J4;rw [Quu g l];simp only [List.any_cons];cases b<;>cases g x<;>simp
theorem QMn {p:Ng} {x:Nh} {r:Nq} {a b:Int} (h1:r.Nr.length=p.Nc.length) (h2:x.Nc.length=p.Nc.length) (h3:p.Nc.length < 1000):loop (Qhk r p x b a) (true,0)=some (YG p x.Nc r [a,b]):=by
 have hlen:(p.Nc.zip (r.Nr.zip x.Nc)).length=p.Nc.length:=by simp [h1,h2]
 have:=(Qvy (step:=Qhk r p x b a) (p.Nc.zip (r.Nr.zip x.Nc)) (fun _ (c:Bool) q=>c&&!(Qdb [a,b] q)) (fun c k=>(c,(k:Int))) (fun c=>c) (fun _ _=>True) true trivial (fun k hk c _=>by
  rw [hlen] at hk;refine ⟨?_,trivial⟩;unfold Qhk;simp only [XL hk,cond_true,Xt hk,Qq,XE k (show k < 4611686018427387904 by omega),Xt (show k < r.Nr.length by omega),Xt (show k < x.Nc.length by omega),List.getElem_zip,Qdb];generalize hs:p.Nc[k].Ni=s;by_cases ha:s=a
  ·subst ha;cases c
   ·simp
   ·by_cases hn:x.Nc[k]=r.Nr[k]
    ·simp [hn]
    ·simp [hn,Ne.symm hn]
  ·by_cases hb:s=b
   ·subst hb;cases c
    ·simp [ha,hs]
    ·by_cases hn:x.Nc[k]=r.Nr[k]
     ·simp [hn,ha,hs]
     ·simp [hn,Ne.symm hn,ha,hs]
   ·cases c<;>simp [ha,hb,hs]) (fun c _=>by
  rw [hlen];unfold Qhk;simp only [XM];rfl)).1
 rw [Quu,Bool.true_and] at this;exact this
theorem QMm {p:Ng} (hp:PlantOk p) {x:Nh} (h2:x.Nc.length=p.Nc.length) (a b:Int):Qln p x a b=some (JC p x.Nc a b):=by
 have hw4:=hp.w4;have hr10:=hp.r10;have hs8:=hp.s8;unfold Qln JC;have inner:∀ r∈p.Nj,loop (Qlm r p x b a) 0=some (if (ZH r a b&&YG p x.Nc r [a,b])=true then .inl (.inr (.inl true)) else .inr ()):=fun r hr=>by
  have hr2:=hp.r2 r hr;have hr8:=hp.r8 r hr;have hlen:(r.Na.zip (r.Na.drop 1)).length=r.Na.length - 1:=by simp
  rw [Y2 (r.Na.zip (r.Na.drop 1)) (fun q=>(decide (q.1=a)&&decide (q.2=b))&&YG p x.Nc r [a,b]) (fun _ _=>Sum.inr (.inl true)) (fun k hk=>by
   rw [hlen] at hk;unfold Qlm;rw [XE k (by omega),XL (show k+1 < r.Na.length by omega),cond_true,Xt (show k < r.Na.length by omega),Qq,Xt (show k+1 < r.Na.length by omega),QMn (hp.rn r hr) h2 (by omega)];simp only [List.getElem_zip,List.getElem_drop,Qq];have e:r.Na[1+k]'(by omega)=r.Na[k+1]'(by omega) := by congr 1;omega
   rw [e];generalize YG p x.Nc r [a,b]=lb;by_cases h3:r.Na[k]=a
   ·by_cases h4:r.Na[k+1]=b
    ·cases lb<;>simp [h3,h4]
    ·cases lb<;>simp [h3,h4]
   ·cases lb<;>simp [h3]) (by
   rw [hlen];unfold Qlm;rw [XE _ (by omega),show r.Na.length - 1+1=r.Na.length by omega,XM];rfl)]
  have ea:(r.Na.zip (r.Na.drop 1)).any (fun q=>(decide (q.1=a)&&decide (q.2=b))&&YG p x.Nc r [a,b])=(ZH r a b&&YG p x.Nc r [a,b]):=by
   unfold ZH;cases YG p x.Nc r [a,b]<;>simp
  rcases ZL (p:=fun q:Int×Int=>(decide (q.1=a)&&decide (q.2=b))&&YG p x.Nc r [a,b]) (res:=fun _ _=>(Sum.inr (.inl true):Int⊕(Bool⊕Unit))) (r.Na.zip (r.Na.drop 1)) 0 with ⟨k1,k2⟩ | ⟨j,y,k1,k2,k3⟩
  ·rw [k1,<-ea,k2];rfl
  ·rw [k1,<-ea,k3];rfl
 rw [Y2 p.Nj (fun r=>ZH r a b&&YG p x.Nc r [a,b]) (fun _ _=>true),Qq]
 ·rcases ZL (p:=fun r=>ZH r a b&&YG p x.Nc r [a,b]) (res:=fun _ _=>true) p.Nj 0 with ⟨k1,k2⟩ | ⟨j,y,k1,k2,k3⟩
  ·rw [k1,k2];rfl
  ·rw [k1,k3];rfl
 ·intro k hk;unfold Qqz;rw [XL hk,cond_true,Xt hk,Qq,inner _ (List.getElem_mem hk),XE k (by omega)];cases (ZH p.Nj[k] a b&&YG p x.Nc p.Nj[k] [a,b])<;>rfl
 ·unfold Qqz;rw [XM];rfl
/-! ### Which states are right -/
theorem QIn {x:Nh} {n:Nat} {s:Int}:decide (s∈(x.Nb.take n).flatMap (·.Nd))=(x.Nb.take n).any fun o=>decide (s∈o.Nd):=by
 rw [Bool.eq_iff_iff,decide_eq_true_eq,List.any_eq_true,List.mem_flatMap];simp only [decide_eq_true_eq]
theorem Qxl {p:Ng} (hS:PlantS p) (hp:PlantOk p) {x:Nh} (h:StateS x) (h2:x.Nc.length=p.Nc.length) (n:Nat) (hn:n < x.Nb.length) (hf:((x.Nb.take n).flatMap (·.Nd)).length<=1000 * n) :
    loop (Qhj x.Nb[n] p x) ((x.Nb.take n).flatMap (·.Nd),0)=some (match Xy (ZX p x n x.Nb[n]) x.Nb[n].Nd.length with | some k=>.inl (.inr (.inl (ZX p x n x.Nb[n] k))) | none=>.inr ((x.Nb.take (n+1)).flatMap (·.Nd))):=by
  have hc:=h.ch _ (List.getElem_mem hn);have hl:=h.tr;have e1:(x.Nb.take (n+1)).flatMap (·.Nd)=(x.Nb.take n).flatMap (·.Nd)++x.Nb[n].Nd:=by
    rw [<-Qig _ _ hn,List.flatMap_append];simp
  rw [e1];generalize hF:(x.Nb.take n).flatMap (·.Nd)=F at hf ⊢;have hm:∀ s,decide (s∈F)=(x.Nb.take n).any fun o=>decide (s∈o.Nd):=fun s=>by rw [<-hF];exact QIn
  have:=JW (step:=Qhj x.Nb[n] p x) (fun k=>(F++x.Nb[n].Nd.take k,(k:Int))) x.Nb[n].Nd.length (ZX p x n x.Nb[n]) (fun _ e=>(.inr (.inl e):((List Int)×Int)⊕(Int⊕Unit))) (F++x.Nb[n].Nd) (fun k hk _=>by
    have hs:ZX p x n x.Nb[n] k=chE p x n x.Nb[n] k x.Nb[n].Nd[k]:=ZG _ _ _ hk;rw [hs];unfold Qhj chE;simp only [XL hk,cond_true,Xt hk,Qq,Qxn hS];rw [Qor _ _ (by simp;omega),Qq,JA (by simp;omega),Qq,XE k (by omega),List.append_assoc,Qig _ _ hk,
      show decide (x.Nb[n].Nd[k]∈F++x.Nb[n].Nd.take k)=(decide (x.Nb[n].Nd[k]∈x.Nb[n].Nd.take k)||(x.Nb.take n).any fun o=>decide (x.Nb[n].Nd[k]∈o.Nd)) by
        rw [<-hm,Bool.eq_iff_iff];simp [or_comm]]
    cases Yo p x.Nb[n].Nd[k]
    · rfl
    cases (decide (x.Nb[n].Nd[k]∈x.Nb[n].Nd.take k)||(x.Nb.take n).any fun o=>decide (x.Nb[n].Nd[k]∈o.Nd))
    · simp only [cond_true,decide_true,Bool.not_true,cond_false];by_cases hk0:k=0
      · subst hk0;rfl
      · rw [decide_eq_true (show (0:Int) < (k:Int) by omega),show w64 ((k:Int) - 1)=((k - 1:Nat):Int) by rw [Zg (by omega)];omega];simp only [cond_true,Xt (show k - 1 < x.Nb[n].Nd.length by omega),Qq,QMm hp h2,if_neg hk0,List.getElem?_eq_getElem (show k - 1 < x.Nb[n].Nd.length by omega),Option.getD_some];cases JC p x.Nc x.Nb[n].Nd[k - 1] x.Nb[n].Nd[k]<;>rfl
    · rfl) (fun _=>by
    unfold Qhj;simp only [XM,List.take_length];rfl)
  simp only [List.take_zero,List.append_nil,Int.natCast_zero] at this;exact this
theorem QMq {p:Ng} (hS:PlantS p) (hp:PlantOk p) {x:Nh} (h:StateS x):Qlk p x=some (Qdk p x):=by
  have h1:=h.sw;have h2:=h.tr;have hw4:=hp.w4;have ht3:=hp.t3;unfold Qlk Qdk;by_cases hl:x.Nc.length=p.Nc.length/\x.Nb.length=p.Nb.length
  · rw [if_pos hl,decide_eq_true (show (x.Nc.length:Int)=p.Nc.length by omega),decide_eq_true (show (x.Nb.length:Int)=p.Nb.length by omega)];simp only [Bool.not_true,Bool.or_self,cond_false];rw [Y2 x.Nc (fun n=>!(YN n)) (fun _ _=>2) (fun k hk=>by
      unfold Qqx;rw [XL hk,cond_true,Xt hk,Qq,Qqu,Qq,XE k (by omega)]) (by
      unfold Qqx;rw [XM];rfl),Qq]
    have ea:x.Nc.any (fun n=>!(YN n))=!(x.Nc.all YN):=by
      rw [List.all_eq_not_any_not,Bool.not_not]
    rcases ZL (p:=fun n=>!(YN n)) (res:=fun _ _=>(2:Int)) x.Nc 0 with ⟨k1,k2⟩ | ⟨j,y,k1,k2,k3⟩
    · rw [k1];rw [ea,Bool.not_eq_false'] at k2;rw [k2,Bool.true_and];simp only [Xj];rw [show Qqy x.Nf=some (Qai x.Nf) from rfl,Qq];cases Qai x.Nf
      · rfl
      · simp only [Bool.not_true,cond_false,cond_true];have:=JW (step:=Qlj p x) (fun n=>((x.Nb.take n).flatMap (·.Nd),(n:Int))) x.Nb.length (Jn p x) (fun _ e=>e) () (fun n hn _=>by
          have hs:Jn p x n=tsE p x n x.Nb[n]:=ZG _ _ _ hn;have hf:∀ m,m<=x.Nb.length->((x.Nb.take m).flatMap (·.Nd)).length<=1000 * m:=fun m=>by
            induction m with
            | zero=>intro _;simp
            | succ m ih =>
              intro hm;rw [<-Qig _ _ (show m < x.Nb.length by omega),List.flatMap_append,List.length_append];have:=ih (by omega);have:=h.ch _ (List.getElem_mem (show m < x.Nb.length by omega));rw [show ([x.Nb[m]]:List Nm).flatMap (·.Nd)=x.Nb[m].Nd by simp];omega
          have hc:=h.ch _ (List.getElem_mem hn);rw [hs];unfold Qlj tsE;simp only [XL hn,cond_true,Xt hn,Qq,Qba];have eu:(((decide ((x.Nb[n].Nd.length:Int)=0))&&(!decide (x.Nb[n].Nk=0)))||((decide (0 < (x.Nb[n].Nd.length:Int)))&&(!(decide (1<=x.Nb[n].Nk)&&decide (x.Nb[n].Nk<=(x.Nb[n].Nd.length:Int))))))=!(JL x.Nb[n]):=by
            unfold JL;by_cases h0:x.Nb[n].Nd.length=0
            · rw [if_pos h0,decide_eq_true (show (x.Nb[n].Nd.length:Int)=0 by omega),decide_eq_false (show ¬ (0:Int) < x.Nb[n].Nd.length by omega)];simp
            · rw [if_neg h0,decide_eq_false (show ¬ (x.Nb[n].Nd.length:Int)=0 by omega),decide_eq_true (show (0:Int) < x.Nb[n].Nd.length by omega)];simp
          by_cases h0:x.Nb[n].Nd.length=0
          · have g1:decide ((x.Nb[n].Nd.length:Int)=0)=true:=decide_eq_true (by omega);have g2:decide ((0:Int) < x.Nb[n].Nd.length)=false:=decide_eq_false (by omega);rw [g1,g2] at eu ⊢;simp only [Bool.and_false,cond_false,Qq,Bool.false_and,Bool.or_false] at eu ⊢;rw [eu];cases JL x.Nb[n]
            · rfl
            · simp only [Bool.not_true,cond_false,cond_true];rw [Qxl hS hp h hl.1 n hn (hf n (by omega)),Qq];cases hfe:Xy (ZX p x n x.Nb[n]) x.Nb[n].Nd.length with
              | some k=>rw [if_neg (JT hfe).2.1];rfl
              | none=>rw [if_pos rfl];simp only [Xj];rw [XE n (by omega)]
          · have g1:decide ((x.Nb[n].Nd.length:Int)=0)=false:=decide_eq_false (by omega);have g2:decide ((0:Int) < x.Nb[n].Nd.length)=true:=decide_eq_true (by omega);rw [g1,g2] at eu ⊢;simp only [Bool.false_and,Bool.not_false,Bool.and_true,cond_true,Qq] at eu ⊢;rw [eu];cases JL x.Nb[n]
            · rfl
            · simp only [Bool.not_true,cond_false,cond_true];rw [Qxl hS hp h hl.1 n hn (hf n (by omega)),Qq];cases hfe:Xy (ZX p x n x.Nb[n]) x.Nb[n].Nd.length with
              | some k=>rw [if_neg (JT hfe).2.1];rfl
              | none=>rw [if_pos rfl];simp only [Xj];rw [XE n (by omega)]) (fun _=>by
          unfold Qlj;simp only [XM];rfl)
        simp only [List.take_zero,List.flatMap_nil,Int.natCast_zero] at this;rw [this,Qq];cases Xy (Jn p x) x.Nb.length<;>rfl
    · rw [k1];rw [ea,Bool.not_eq_true'] at k3;rw [k3];rfl
  · rw [if_neg hl, show (!decide ((x.Nc.length : Int) = p.Nc.length) || !decide ((x.Nb.length : Int) = p.Nb.length)) = true by
      simp only [Bool.or_eq_true,Bool.not_eq_true',decide_eq_false_iff_not];omega]
    rfl
end Go.Gw

end
section
set_option maxRecDepth 4096
namespace Go.Gw
open Go
attribute [local irreducible] loop
/-! ### All events -/
/-! ### What lies in a list and meets a test -/
def Qbc {α β:Type} (p:α->Bool) (g:Nat->α->β):Nat->List α->List β
 | _,[]=>[]
 | k,x::l=>if p x=true then g k x::Qbc p g (k+1) l else Qbc p g (k+1) l
theorem Qus {α β:Type} (g:α->β):∀ (l:List α) (k:Nat),Qbc (fun _=>true) (fun _ x=>g x) k l=l.map g
 | [],k=>rfl
 | x::l,k=>by
  unfold Qbc;rw [Qus g l];rfl
theorem QIb {α β σ ρ:Type} {step:σ->Option (σ⊕ρ)} (l:List α) (p:α->Bool) (g:Nat->α->β) (S:List β->Nat->σ) (o:List β->ρ)
  (hs:∀ k (hk:k < l.length) acc,acc.length<=k->step (S acc k)=some (.inl (S (if p l[k]=true then acc++[g k l[k]] else acc) (k+1)))) (he:∀ acc,step (S acc l.length)=some (.inr (o acc))):loop step (S [] 0)=some (o (Qbc p g 0 l)):=by
 have key:∀ j k acc,acc.length<=k->j+k=l.length->loop step (S acc k)=some (o (acc++Qbc p g k (l.drop k))):=by
  intro j
  induction j with
  | zero =>
   intro k acc _ hk;obtain rfl:k=l.length:=by omega
   rw [List.drop_length];simp only [Qbc,List.append_nil];exact Qam (he acc)
  | succ j ih =>
   intro k acc ha hk;have hlt:k < l.length:=by omega
   rw [List.drop_eq_getElem_cons hlt,J6 (hs k hlt acc ha)];by_cases hp:p l[k]=true
   ·rw [if_pos hp,ih (k+1) _ (by simp;omega) (by omega)];simp [Qbc,hp]
   ·rw [if_neg hp,ih (k+1) _ (by omega) (by omega)];simp [Qbc,hp]
 have:=key l.length 0 [] (by simp) (by omega);simpa using this
theorem QDb {p:Ng} (hp:PlantOk p):(JS p).length<=280:=by
 have hs8:=hp.s8;have ht3:=hp.t3;have hw4:=hp.w4;have hr10:=hp.r10;have hfl:∀ {β:Type} (f:Nat->List β) (M n:Nat),(∀ k,(f k).length<=M)->((List.range n).flatMap f).length<=n * M:=fun f M n h=>by
  induction n with
  | zero=>simp
  | succ n ih =>
   rw [List.range_succ,List.flatMap_append,List.length_append,Nat.succ_mul];have:=h n;have e:([n]:List Nat).flatMap f=f n:=by simp
   rw [e];omega
 refine hfl _ 40 7 fun k=>?_;have h1:YF p k<=4:=by unfold YF;split<;>omega
 have h2:X1 p k<=10:=by unfold X1;split<;>(try split)<;>(try split)<;>omega
 have:=hfl (fun a=>(List.range (X1 p k)).flatMap fun b=>[ZF k a b]) 10 (YF p k) fun a=>by
  have:=hfl (fun b=>[ZF k a b]) 1 (X1 p k) fun _=>by simp
  omega
 omega
end Go.Gw

end
section
set_option maxRecDepth 4096
namespace Go.Gw
open Go
attribute [local irreducible] loop
theorem Qyp {α:Type} {p:α->Bool}:∀ (l:List α) (m:Nat),(X7 p (fun k _=>(k:Int)) m l=.inr ()/\l.any p=false)\/∃ j,∃ h:j < l.length,X7 p (fun k _=>(k:Int)) m l=.inl ((m+j:Nat):Int)/\p l[j]=true
 | [],m=>.inl ⟨rfl,rfl⟩
 | x::l,m=>by
  by_cases hp:p x=true
  ·exact .inr ⟨0,by simp,by simp [X7,hp],by simpa using hp⟩
  ·rcases Qyp (p:=p) l (m+1) with ⟨h1,h2⟩ | ⟨j,hj,h1,h2⟩
   ·exact .inl ⟨by simp [X7,hp,h1],by simp [hp,h2]⟩
   ·exact .inr ⟨j+1,by simpa using hj,by simp only [X7,hp];rw [h1];simp;omega,by simpa using h2⟩
theorem QFu {α:Type} (p:α->Bool) (l:List α):(Qal p l=-1/\l.any p=false)\/∃ j,∃ h:j < l.length,Qal p l=(j:Int)/\p l[j]=true:=by
 unfold Qal;rcases Qyp (p:=p) l 0 with ⟨h1,h2⟩ | ⟨j,hj,h1,h2⟩
 ·exact .inl ⟨by rw [h1],h2⟩
 ·exact .inr ⟨j,hj,by rw [h1];simp,h2⟩
theorem Qwv {α:Type} {l:List α} (h:l.Nodup) {i j:Nat} (hi:i < l.length) (hj:j < l.length) (e:l[i]=l[j]):i=j:=by
 unfold List.Nodup at h;rw [List.pairwise_iff_getElem] at h;rcases Nat.lt_trichotomy i j with h1 | h1 | h1
 ·exact absurd e (h i j hi hj h1)
 ·exact h1
 ·exact absurd e.symm (h j i hj hi h1)
theorem QFx {p:Ng} (hp:PlantOk p) {x:Nh} (h2:x.Nc.length=p.Nc.length) (a b:Int):Qki (some ⟨p,x⟩) a b=some (JC p x.Nc a b):=by
  have hw4:=hp.w4;have hr10:=hp.r10;have hs8:=hp.s8;unfold Qki JC;rw [Qq,Y2 p.Nj (fun r=>ZH r a b&&YG p x.Nc r [a,b]) (fun _ _=>true),Qq]
  · rcases ZL (p:=fun r=>ZH r a b&&YG p x.Nc r [a,b]) (res:=fun _ _=>true) p.Nj 0 with ⟨k1,k2⟩ | ⟨j,y,k1,k2,k3⟩
    · rw [k1,k2];rfl
    · rw [k1,k3];rfl
  · intro k hk;have hr:=List.getElem_mem hk;unfold Qps;simp only [XL hk,cond_true,Xt hk,Qq];generalize p.Nj[k]=r at hr ⊢;have hr2:=hp.r2 r hr;have hr8:=hp.r8 r hr;have hrd:=hp.rd r hr;rw [Qvj _ _ (by omega),Qq,Qvl (hp.rn r hr) h2 (by omega) (by simp),XE k (by omega)];rcases QFu (fun x=>decide (a=x)) r.Na with ⟨h3,h4⟩ | ⟨j,hj,h3,h4⟩
    · rw [h3];have h5:ZH r a b=false:=by
        cases hb:ZH r a b with
        | false=>rfl
        | true =>
          obtain ⟨j,hj,h6,_⟩:=pairB_iff.1 hb;rw [Qth,decide_eq_false_iff_not] at h4;exact absurd (h6▸List.getElem_mem _) h4
      rw [h5];rfl
    · rw [h3];have h4:a=r.Na[j]:=by simpa using h4
      rw [decide_eq_true (show (0:Int)<=(j:Int) by omega),XE j (by omega)];by_cases h5:j+1 < r.Na.length
      · rw [XL h5];simp only [Bool.and_self,cond_true];rw [Xt h5,Qq];have h6:ZH r a b=decide (r.Na[j+1]=b):=by
          rw [Bool.eq_iff_iff,pairB_iff,decide_eq_true_eq];constructor
          · rintro ⟨i,hi,h7,h8⟩;have:i=j:=Qwv hrd (by omega) hj (h7.trans h4);subst this;exact h8
          · intro h7;exact ⟨j,h5,h4.symm,h7⟩
        rw [h6];cases decide (r.Na[j+1]=b)<;>rfl
      · rw [decide_eq_false (show ¬ ((j+1:Nat):Int) < r.Na.length by omega)];have h6:ZH r a b=false:=by
          cases hb:ZH r a b with
          | false=>rfl
          | true =>
            obtain ⟨i,hi,h7,_⟩:=pairB_iff.1 hb;have:i=j:=Qwv hrd (by omega) hj (h7.trans h4);omega
        rw [h6];rfl
  · unfold Qps;simp only [XM];rfl
theorem Quv {α:Type} (g:α->Bool):∀ (l:List α) (k:Nat) (b:Bool),J4 (fun (_:Nat) (a:Bool) (x:α)=>a||g x) k b l=(b||l.any g)
 | [],k,b=>by simp [J4]
 | x::l,k,b=>by
  unfold J4;rw [Quv g l];simp [Bool.or_assoc]
theorem QBl (l:List Nm) (h:∀ t∈l,t.Nd.length < 1000) (hl:l.length < 1000) (s:Int) (b:Bool):loop (Qgn s l) (b,0)=some (b||l.any fun o=>decide (s∈o.Nd)):=by
 have:=(Qvy (step:=Qgn s l) l (fun _ (c:Bool) o=>c||decide (s∈o.Nd)) (fun c k=>(c,(k:Int))) (fun c=>c) (fun _ _=>True) b trivial (fun k hk c _=>by
  refine ⟨?_,trivial⟩;unfold Qgn;simp only [XL hk,cond_true,Xt hk,Qq,XE k (show k < 4611686018427387904 by omega),Qdz _ _ (show l[k].Nd.length < 1000000 by have:=h _ (List.getElem_mem hk);omega)];cases c<;>rfl) (fun c _=>by
  unfold Qgn;simp only [XM];rfl)).1
 rw [Quv] at this;exact this
theorem QRc (t:Nm):Je t.Nk (if (t.Nd.length:Int) < 1 then (t.Nd.length:Int) else 1) (t.Nd.length:Int)=some (JL t):=by
 rw [Qsq];congr 1;unfold JL;by_cases h0:t.Nd.length=0
 ·rw [if_pos h0,if_pos (show (t.Nd.length:Int) < 1 by omega),Bool.eq_iff_iff];simp only [Bool.and_eq_true,decide_eq_true_eq];omega
 ·rw [if_neg h0,if_neg (show ¬ (t.Nd.length:Int) < 1 by omega)]
theorem QFw {p:Ng} (hS:PlantS p) (hp:PlantOk p) {x:Nh} (h:StateS x) (h2:x.Nc.length=p.Nc.length) (n:Nat) (hn:n < x.Nb.length):Qkg (some ⟨p,x⟩) (n:Int)=some (Jn p x n):=by
  have hs:Jn p x n=tsE p x n x.Nb[n]:=ZG _ _ _ hn;have hc:=h.ch _ (List.getElem_mem hn);have hl:=h.tr;rw [hs];unfold Qkg tsE;simp only [Qq,Xt hn];rw [QRc,Qq];cases JL x.Nb[n]
  · rfl
  simp only [Bool.not_true,cond_false,cond_true];have key:loop (Qkf x.Nb[n] (some ⟨p,x⟩) (n:Int)) 0=some (match Xy (ZX p x n x.Nb[n]) x.Nb[n].Nd.length with | some i=>.inl (ZX p x n x.Nb[n] i) | none=>.inr ()) :=
    JW (fun k=>(k:Int)) x.Nb[n].Nd.length (ZX p x n x.Nb[n]) (fun _ e=>e) () (fun k hk _=>by
      have hs:ZX p x n x.Nb[n] k=chE p x n x.Nb[n] k x.Nb[n].Nd[k]:=ZG _ _ _ hk;rw [hs];unfold Qkf chE;simp only [XL hk,cond_true,Xt hk,Qq];rw [Qcy (by omega),Qq,Qdz _ _ (by simp;omega),Qq,Qcy (by omega),Qq,
        QBl _ (fun t ht=>h.ch t (List.mem_of_mem_take ht)) (by simp;omega),Qq,Qyj hS,Qq,Yy,Qq,XE k (by omega)]
      generalize (decide (x.Nb[n].Nd[k]∈x.Nb[n].Nd.take k)||(x.Nb.take n).any fun o=>decide (x.Nb[n].Nd[k]∈o.Nd))=bb;by_cases hk0:k=0
      · subst hk0;simp only [Int.natCast_zero,decide_true,Bool.not_true,cond_false,Qq,Bool.true_or,if_true,Yy,cond_true];rw [Zw _ (by simp),Qq,Qee];cases Yo p x.Nb[n].Nd[0]<;>cases bb<;>rfl
      · rw [decide_eq_false (show ¬ (k : Int) = 0 by omega), show w64 ((k : Int) - 1) = ((k - 1 : Nat) : Int) by rw [Zg (by omega)]; omega,
          show (if (0:Int) < ((k - 1:Nat):Int) then ((k - 1:Nat):Int) else 0)=((k - 1:Nat):Int) by split<;>omega]
        simp only [Bool.not_false,cond_true,Xt (show k - 1 < x.Nb[n].Nd.length by omega),Qq,QFx hp h2,if_neg hk0,List.getElem?_eq_getElem (show k - 1 < x.Nb[n].Nd.length by omega),Option.getD_some,Bool.false_or,Yy];rw [Zw _ (by simp),Qq,Qee];cases Yo p x.Nb[n].Nd[k]<;>cases bb<;>cases JC p x.Nc x.Nb[n].Nd[k - 1] x.Nb[n].Nd[k]<;>rfl) (fun _=>by
      unfold Qkf;simp only [XM];rfl)
  rw [key,Qq];cases Xy (ZX p x n x.Nb[n]) x.Nb[n].Nd.length<;>rfl
theorem QMc (l:List Int) (hl:l.length < 1000):Qmg l=some (!(l.all YN)):=by
 unfold Qmg Qrq;rw [Y2 l (fun n=>!(YN n)) (fun k _=>(k:Int)),Qq,Qfe,Qq,Qhy]
 ·rw [List.all_eq_not_any_not,Bool.not_not]
 ·intro k hk;unfold Qrp;rw [XL hk,Xt hk,XE k (by omega)];rfl
 ·unfold Qrp;rw [XM];rfl
def Z6 (p:Ng) (x:Nh):Int:=if (ZJ p).2=0 then Qdk p x else (ZJ p).2
theorem Qxd {p:Ng} (hS:PlantS p) {x:Nh} (h:StateS x):Qgx p x=some (if Z6 p x=0 then (some ⟨p,x⟩,0) else (none,Z6 p x)):=by
  have h1:=h.sw;have h2:=h.tr;have h3:=hS.sw;have h4:=hS.tr;unfold Qgx Z6;rw [QMc _ (by omega),Qq,QMb hS,Qq,Yy,Qq,Bool.not_not];by_cases hp0:(ZJ p).2=0
  · have hp:=Qqt hp0;simp only [if_pos hp0,hp0];unfold Qdk;by_cases hl:x.Nc.length=p.Nc.length/\x.Nb.length=p.Nb.length
    · rw [if_pos hl,decide_eq_true (show (x.Nc.length:Int)=p.Nc.length by omega),decide_eq_true (show (x.Nb.length:Int)=p.Nb.length by omega)];have e1:∀ (f:Bool->Option (Option Nn×Int)),(Option.bind (bif x.Nc.all YN then Qcf x.Nf else some default) f)=f (bif x.Nc.all YN then Qai x.Nf else default):=fun f=>by
        cases x.Nc.all YN<;>rfl
      rw [e1,Yy,Qq,Zw _ (by simp),Qq,Qee];cases ha:x.Nc.all YN
      · rfl
      · cases hb:Qai x.Nf
        · rfl
        · simp only [Bool.and_self,cond_true,ne_eq,not_true_eq_false,if_false,decide_true,Bool.not_true,cond_false];have key:loop (Qkn p x) 0=some (match Xy (Jn p x) x.Nb.length with | some i=>.inl (none,Jn p x i) | none=>.inr ()) :=
            JW (fun k=>(k:Int)) x.Nb.length (Jn p x) (fun _ e=>(none,e)) () (fun k hk _=>by
              unfold Qkn;rw [XL hk,cond_true,QFw hS hp h hl.1 k hk,Qq,XE k (by omega)];by_cases h5:Jn p x k=0
              · rw [if_pos h5,decide_eq_true h5];rfl
              · rw [if_neg h5,decide_eq_false h5];rfl) (fun _=>by
              unfold Qkn;rw [XM];rfl)
          rw [key,Qq];cases hf:Xy (Jn p x) x.Nb.length with
          | some i =>
            have h5:=(JT hf).2.1;simp [Xj,h5]
          | none=>rfl
    · rw [if_neg hl, show (decide ((x.Nc.length : Int) = p.Nc.length) && decide ((x.Nb.length : Int) = p.Nb.length)) = false by
        rw [Bool.and_eq_false_iff,decide_eq_false_iff_not,decide_eq_false_iff_not];omega]
      have e1:∀ (f:Bool->Option (Option Nn×Int)),(Option.bind (bif x.Nc.all YN then Qcf x.Nf else some default) f)=f (bif x.Nc.all YN then Qai x.Nf else default):=fun f=>by
        cases x.Nc.all YN<;>rfl
      rw [e1,Yy,Qq,Zw _ (by simp),Qq,Qee];rfl
  · simp only [if_neg hp0];have e1:∀ (f:Bool->Option (Option Nn×Int)),(Option.bind (bif x.Nc.all YN then Qcf x.Nf else some default) f)=f (bif x.Nc.all YN then Qai x.Nf else default):=fun f=>by
      cases x.Nc.all YN<;>rfl
    rw [e1,Yy,Qq,Zw _ (by simp),Qq,Qee,if_pos hp0,decide_eq_false hp0];rfl
theorem Qqr {p:Ng} {x:Nh} (h:Z6 p x=0):PlantOk p/\StateOk p x/\(ZJ p).2=0:=by
 unfold Z6 at h;by_cases hp0:(ZJ p).2=0
 ·rw [if_pos hp0] at h;exact ⟨Qqt hp0,state_iff.1 h,hp0⟩
 ·rw [if_neg hp0] at h;exact absurd h hp0
theorem Qlb {p:Ng} {x:Nh} (h0:(ZJ p).2=0) (h:StateOk p x):Z6 p x=0:=by
 unfold Z6;rw [if_pos h0];exact state_iff.2 h
def Qbu (p:Ng) (x:Nh) (e:Nl):Nh×Int:=if Z6 p x=0 then (if evE p x e=0 then (XX p x e,0) else (QAb,evE p x e)) else (QAb,Z6 p x)
theorem Qeh {p:Ng} (hS:PlantS p) {x:Nh} (h:StateS x) (e:Nl):Qdc p x e=some (Qbu p x e):=by
 unfold Qdc Qbu;rw [Qxd hS h,Qq];by_cases h0:Z6 p x=0
 ·obtain ⟨hp,hx,_⟩:=Qqr h0;simp only [if_pos h0,decide_true,cond_true];rw [QDd hS,Qq,Qq];unfold evE;by_cases h1:Ym p e=0
  ·obtain ⟨r,hr,h2,h3⟩:=Qtl hp hx h1;simp only [if_pos h1,decide_eq_true h1,cond_true];rw [hr,Qq,Qq,h2];by_cases h4:Yt p x e=0
   ·rw [if_pos h4,h3 h4,decide_eq_true h4];simp only [Bool.not_true,cond_false];rw [QQy p ((Qib hp hx h1 h4).s hp)];rfl
   ·rw [if_neg h4,decide_eq_false h4];rfl
  ·simp only [if_neg h1,decide_eq_false h1,cond_false,Qq,Bool.not_false,cond_true];rfl
 ·simp only [if_neg h0,decide_eq_false h0,cond_false,Qq,Bool.not_false,cond_true];rfl
theorem QFy {p:Ng} (hS:PlantS p) {x:Nh} (h:StateS x):Qkd p x=some (if Z6 p x=0 then (Qbk p x,0) else ([],Z6 p x)):=by
  unfold Qkd;rw [Qxd hS h,Qq];by_cases h0:Z6 p x=0
  · obtain ⟨hp,hx,_⟩:=Qqr h0;simp only [if_pos h0,decide_true,Bool.not_true,cond_false];rw [QMe hp hx,Qq];have hl:(Zk p x (JS p)).length<=280:=by
      unfold Zk;rw [List.length_map];exact Nat.le_trans (List.length_filter_le _ _) (QDb hp)
    have:=QIb (step:=Qgl (Zk p x (JS p))) (Zk p x (JS p)) (fun _=>true) (fun _ s=>s.Nv) (fun acc k=>(acc,(k:Int))) (fun acc=>acc) (fun k hk acc ha=>by
      unfold Qgl;simp only [XL hk,cond_true,Xt hk,Qq,if_true];rw [JA (by simp;omega),Qq,XE k (by omega)]) (fun acc=>by
      unfold Qgl;simp only [XM];rfl)
    rw [Qus] at this;have l2:loop (Qgl (Zk p x (JS p))) (([]:List Nl),0)=_:=this;rw [l2,Qq];congr 2;unfold Zk Qbk;rw [List.map_map];exact List.map_id _
  · simp only [if_neg h0,decide_eq_false h0,Bool.not_false,cond_true]
/-! ### Telegrams -/
end Go.Gw

end
section
set_option maxRecDepth 4096
namespace Go.Gw
open Go
attribute [local irreducible] loop
theorem Qhz (x:Nh):Nh.mk x.Nc x.Nb x.Nf=x:=rfl
theorem Qyh {x:Nh} (h:StateS x):Qhh x x=some true:=by rw [QOf h,decide_eq_true rfl]
theorem Qvm {p:Ng} {x:Nh} {F:Bool->Bool->Option Bool} (h0:∀ b,F false b=some true) (h1:F true false=some true) (h2:PlantS p->StateS x->(p.Na.length<=4\/8 < p.Na.length)->F true true=some true) :
  (Option.bind (Qei p) fun r=>Option.bind (bif !(!r) then Qej x else some default) fun s=>F r s)=some true:=by
 rcases QEq p with ⟨hf,hS,h8⟩ | hf
 ·rw [hf,Qq];rcases QEr x with ⟨hx,hX⟩ | hx
  ·simp only [Bool.not_true,Bool.not_false,cond_true];rw [hx,Qq];exact h2 hS hX h8
  ·simp only [Bool.not_true,Bool.not_false,cond_true];rw [hx,Qq];exact h1
 ·rw [hf,Qq];exact h0 _
end Go.Gw

end
