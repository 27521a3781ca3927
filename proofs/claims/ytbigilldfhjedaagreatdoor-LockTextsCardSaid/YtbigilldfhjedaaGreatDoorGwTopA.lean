/- Laws of the walk. Condition: each theorem says its own. -/
import Derived.Test.YtbigilldfhjedaaGreatDoorGwPl
import Derived.Test.YtbigilldfhjedaaGreatDoorGwWg13
import Derived.Test.YtbigilldfhjedaaGreatDoorGwLib5
import Derived.Test.YtbigilldfhjedaaGreatDoorGwLib23
set_option linter.unusedVariables false
set_option linter.unusedSimpArgs false
set_option linter.unusedSectionVars false
open Option renaming bind_some→Ea,bind→Eb,getD_some→Er
open List renaming getElem_of_mem→Ec,getElem_mem→Ee,mem_take_iff_getElem→Ef,getElem?_eq_getElem→Eh,getElem_zip→Ej,any_eq_false→Eo,pairwise_iff_getElem→Ep,take_length→Eq_,flatMap_append→Eu
open Bool renaming not_true→Ed,and_eq_true→Ek,eq_iff_iff→El,or_eq_true→Em,not_eq_true'→En,and_eq_false_iff→Es,or_self→Ev
open Go.Gw.Avoids renaming cons→Eg,nil→Et
section
set_option maxRecDepth 4096
set_option maxHeartbeats 8000000
namespace Go.Gw
open Go Go.Proofs
attribute [local irreducible] T0 TS TT TP TX TZ Eff Stp WC Quiet gd
noncomputable def QQq (M:List Ns) (Y:(List (Option Nt))) (aa:Int):(Int×(List (Option Nt))×List ByteArray)->Option ((Int×(List (Option Nt))×List ByteArray)⊕((List (Option Nt))×List ByteArray)):=fun (G,J,H)=>(bif (decide (G < (M.length:Int)))then(Eb (idx M G) fun I=>(Eb (I.line) fun U=>(Eb (Qer U.Nf) fun O=>(bif (!(Z3 H O))then(Eb (idx Y aa) fun ab=>(Eb (app J ([(some (Nt.mk I.line Opq.mk I.Ny))]:List (Option Nt))) fun V=>some (.inl (w64 (G+1),V,(ZN H O)))))else(some (.inl (w64 (G+1),J,H)))))))else(some (.inr (J,H))))
noncomputable def QQr (H:(List (List Ns))) (O:(List (Option Nt))):(Int×(List (Option Nt))×List ByteArray)->Option ((Int×(List (Option Nt))×List ByteArray)⊕((List (Option Nt))×List ByteArray)):=fun (G,I,J)=>(bif (decide (G < (H.length:Int)))then(Eb (idx H G) fun M=>(Eb (loop (QQq M O G) (0,I,J)) fun ((U,V):(List (Option Nt))×List ByteArray)=>some (.inl (w64 (G+1),U,V))))else(some (.inr (I,J))))
noncomputable def QQs:((List (Option Nt))×List ByteArray)->Option (((List (Option Nt))×List ByteArray)⊕((List (Option Nt))×List ByteArray)):=fun (G,H)=>(bif ((decide (0 < (G.length:Int)))&&(decide ((H.length:Int)<=2000)))then(Eb (mk (G.length:Int) (([]:(List Ns)):(List Ns))) fun O=>(Eb (Qtx G) fun I=>(Eb (loop (QQr I G) (0,([]:List (Option Nt)),H)) fun ((J,M):(List (Option Nt))×List ByteArray)=>some (.inl (J,M)))))else(some (.inr (G,H))))
noncomputable def QAy (H:Ng):Option (Int×Int):=(Eb (Qmx H) fun M=>(bif (!decide (M=0))then(none)else(Eb (Qsn H) fun J=>(Eb (QBs (some (Nn.mk H J))) fun I=>(Eb (loop QQs (I.2,I.1)) fun ((O,G):(List (Option Nt))×List ByteArray)=>(bif (decide (2000 < (G.length:Int)))then(none)else(some ((G.length:Int),0))))))))
theorem QQp (L:List Value) (w:World) (hL:LtL L w) (e9:gtab1 w) (cf:List Value) (da:Ng) (c8:Rep.rd L w cf da) (r:Int×Int) (h:QAy da=some r):CallsTo Tryz.prog 32 [(.agg cf.toArray)] w (fun v w'=>Ext w w'/\(.tuple #[(Iv r.1),(Iv r.2)])=v):=by
 have e8:=c8;obtain ⟨v1,v3,v5,v7,h2,h4,h6,h8,rfl⟩:=c8;refine QL (n:=44) (rs:=[.tmp 2,.tmp 3]) Tryz.func32 rfl rfl rfl rfl rfl<|Qd<|Qg rfl (Xy (cs:=[v1,v3,v5,v7]) rfl rfl ?_);intro gn gi gh cZ cU;refine Qe rfl<|Qe rfl<|Qb<|Qh fun gk fe=>Qd<|Qa (Q7 (Box.at cU) YW rfl)<|bnd h fun gp fg h=>Qg rfl (Qs Tryz.func61 Qtr rfl (QI rfl) (Qsw (LtL.nil _) ((e8.ext cZ).sub QG) fg) ?_);rintro _ gj ⟨c0,rfl⟩;refine Qe rfl<|Qb<|Qd<|Qc rfl<|Qa (Xx rfl rfl)<|Qb<|Qo h rfl (fun _ h=>?_) (fun _ h=>?_)
 ·cases h
 ·refine Qp<|fe _ _<|Qh fun gm ff=>Xw Xu (.q 0 (.q 1 (.m (.a 2 (.p 3 (.m (.a 4 (.m (.a 5 (.p 6 .done) .z)) .z))) .z)))) (by kernel_rfl) rfl ?_;intro gb cc;have ee:=(cZ.trans c0).trans cc;have ef:=c0.trans cc;have eh:=(((QM w).trans cZ).trans c0).trans cc;refine QX rfl (fun w' hS=>Q7 (Box.at (cU.ext (ef.trans hS))) YW rfl)<|QX rfl (fun w' hS=>Q7 (Box.at (cU.ext (ef.trans hS))) YW rfl)<|QV<|bnd h fun c6 eZ h=>QS rfl (Qs Tryz.func63 QCy rfl (QI rfl) (QBb (hL.chg eh) (e8.ext ee) eZ) ?_);rintro _ ge ⟨cd,ga,rfl,eI⟩;have ek:=eh.trans cd;obtain ⟨eM,eN,fa,fb,rfl⟩:=eI;refine ⟨cd,Qy rfl (fun w'=>XD Qlc (QE rfl rfl (QE rfl rfl QU)) rfl)<|QV<|QS rfl (Xy (cs:=[v1,v3,v5,v7,eM,eN,(Iv c6.Ni)]) rfl rfl ?_)⟩;intro ed e7 eS a7 eO;have cb:=(ee.trans cd).trans a7;have bc:=ek.trans a7;refine ⟨a7,QV ?_⟩;have fc:PtRd L e7 (pt ed) (some (Nn.mk da c6)):=PtRd.of_box eO (Qag hL (Xb ek eS)) ⟨v1,v3,v5,v7,eM,eN,(h2.ext cb),(h4.ext cb),(h6.ext cb),(h8.ext cb),(fa.ext a7),(fb.ext a7),rfl⟩;refine bnd h fun c7 e6 h=>QS rfl (Qs Tryz.func80 QVy rfl (QI rfl) (QRv L _ (hL.chg bc) (e9.ext bc) (pt ed) (some (Nn.mk da c6)) fc c7 e6) ?_);rintro _ gf ⟨c9,H,G,fh,rfl,eT,eU,ce,eP,eQ,eV,eX,eY,fd⟩;have cO:=Xb bc eT;have eW:=Zp bc eV;refine ⟨c9,Qw rfl rfl (fun w'=>X6 rfl)<|Xn<|ff _ _<|Qh fun gg eR=>bnd h fun eJ dB dE=>Q3 (fun (ρ:Env) (aL:World)=>∃ (bJ:(List (Option Nt))) (bK:List ByteArray) (ay:Value),(bJ,bK)=eJ/\ρ 5=(pt H)/\Box aL H [(.map (some G)),ay] 147/\MapAt aL G bK/\Own 174 (ay::pt H::pt G::L) aL ay bJ/\(Frs w ay)/\(Qv ay≠some H)/\(Qv ay≠some G)/\Ext w aL) ?_ ?_⟩
  ·intro fF dp;refine QF<|Xi (fun sv ρ aK=>∃ (az:(List (Option Nt))) (aQ:List ByteArray) (J:Value),(az,aQ)=sv/\ρ 5=(pt H)/\Box aK H [(.map (some G)),J] 147/\MapAt aK G aQ/\Own 174 (J::pt H::pt G::L) aK J az/\(Frs w J)/\(Qv J≠some H)/\(Qv J≠some G)/\Ext w aK) dB ⟨c7.2,c7.1,fh,rfl,rfl,eP,eQ,fd,eW,eX,eY,(bc.trans c9)⟩ ?_;rintro _ ρ aK ⟨az,aQ,J,rfl,aI,ai,aC,aO,bU,bY,bZ,bs⟩ f1 h d5 fE dn;refine Qh fun fG dq=>Qd<|Qc aI<|Qa (Yn rfl)<|Qa (Qm 1 Tryz.underlying147 ⟨0,Qcf⟩ rfl rfl)<|Qa (Qj Qjs rfl (At.drop (Box.at ai) 1))<|Qa (Qds rfl Tryz.underlying145 aO rfl)<|Qa (XP rfl rfl)<|Qc rfl<|Ql (QD rfl) (fun hg=>Qq aI)<|Ql (QD rfl) (fun hg=>Yn (Qi hg))<|Ql (QD rfl) (fun hg=>Qm 0 Tryz.underlying147 ⟨0,Qkc⟩ (Qi hg) rfl)<|Ql (QD rfl) (fun hg=>Qj Qjr (Qi hg) (Box.at ai))<|Ql (QD rfl) (fun hg=>Qwk rfl Tryz.underlying144 (Qi hg) aC)<|Ql (QD rfl) (fun hg=>Zj (Qi hg) rfl)<|Qa (Xp rfl (fun hb=>Qi hb) rfl)<|Qb<|Qo h rfl (fun _ h=>?_) (fun _ h=>?_)
   ·refine Qp<|dq _ _<|QF<|Qz<|Qc aI<|Qg rfl (QLa (nf:=91) (rs:=[]) Tryz.func81 QVz rfl (QI rfl) rfl rfl rfl rfl ?_);refine Qd<|Qc rfl<|Qa (Yn rfl)<|Qa (Qm 1 Tryz.underlying147 ⟨0,Qcf⟩ rfl rfl)<|Qa (Qj Qjs rfl (At.drop (Box.at ai) 1))<|Qa (Qds rfl Tryz.underlying145 aO rfl)<|bnd h fun fs bX h=>Qg rfl (QLc (L:=(J::pt H::pt G::L)) (zcs:=[Sno]) (zero:=([]:(List Ns))) rfl rfl rfl Tryz.underlying177 QLk rfl rfl rfl (fun _ _=>⟨_,rfl,SlRd.nil _ _⟩) rfl rfl bX ?_);intro ar ft aw aG cr v17475c;have dF:∀ b,Qv J=some b->Qv ar≠some b:=fun b hb e=>by have:=aG _ e;have:=aO.blk_lt hb;omega
    have cu:=aO.step (Stepp.add ar aw aG) aw (fun _ _=>Et _);have bh:=Jq aG ai.lt;have b0:=Jq aG aC.lt;have bV:=Zp bs aG;have cg:=bs.trans aw;refine Qg rfl (Xl Q6w ?_);intro a3 fu aj ax db;have b1:=Xg (ai.ext aw) aj;have dG:a3≠G:=JE (aC.ext aw).lt aj;have b2:=Ja cu aj;have aY:=Ja cr aj;have el:=cu.step (QA ax aj) ax (fun _ _=>Et _);have bu:=cr.step (QA ax aj) ax (fun _ _=>Et _);have ci:=aw.trans ax;refine Qg rfl (Xc Q3i (XL bu.one1) rfl rfl rfl db rfl (Qk bu.one1 QH) rfl ?_);intro fv al bd;have bv:=(ai.ext ci).chg al (QO b1);have cv:=(aC.ext ci).chg al (QO dG);have cj:=QR (cg.trans ax) al (Xb cg aj);refine Qb ?_;have eo:=((el.step (Qt al Qu) al (XF b2)).sub QGi).rd (fun b hb=>Eg (Eg (Eg (Eg (fun x hx e=>by have:=hL x hx b e;have:=bU b hb;omega) (fun e=>bZ (hb.trans e.symm))) (fun e=>bY (hb.trans e.symm))) (dF b hb)) (fun e=>b2 (hb.trans e.symm)));have cw:=((bu.step (Qt al Qu) al (XF aY)).sub QGi).sub Jb;have cx:=eo.sub Jb;refine bnd h fun aJ dR h=>QWw (L:=(pt a3::pt H::pt G::L)) (YM (QZ (QZ (Qbu (hL.chg cj) cv.lt) bv) bd) cw) rfl rfl bv bd cx cw bh aY bX v17475c (fun b hb=>Eg (Eg (Eg (fun x hx e=>by have:=hL x hx b e;have:=bV b hb;omega) (fun e=>b0 (hb.trans e.symm))) (fun e=>bh (hb.trans e.symm))) (fun e=>aY (hb.trans e.symm))) dR ?_;intro ρ fw b7 aE ep;have bj:ρ 0=(pt H):=(b7 0 (by decide)).trans rfl;have dT:ρ 2=(pt a3):=(b7 2 (by decide)).trans rfl;have cy:=bv.chg aE (X8 bh);refine Qd<|Qc bj<|Qa (Yn rfl)<|Qa (Qm 1 Tryz.underlying147 ⟨0,Qcf⟩ rfl rfl)<|Qa (Qj Qjs rfl (At.drop (Box.at cy) 1))<|Qe rfl<|Qb<|Qd<|Qc bj<|Qa (Yn rfl)<|Qa (Qm 1 Tryz.underlying147 ⟨0,Qcf⟩ rfl rfl)<|Qg rfl (Y9 (cs':=[(.map (some G)),Sno]) Qcf rfl rfl rfl rfl cy rfl (Qk rfl QH) rfl ?_);intro d9 aF dc;have cz:=ep.step (Qt aF XU);refine Qb<|Qd<|Qa (Qj Q0f dT (Box.at ((bd.chg aE (X8 aY)).chg aF (QO b1.symm))))<|Qa (QK rfl Tryz.underlying177 cz rfl)<|Qc rfl<|Qb ?_;have eu:Own 174 (Sno::pt a3::pt H::pt G::L) d9 Sno ([]:List (Option Nt)):=Own.nil _ _ _;refine bnd h fun eK dC dJ=>Q3 (fun (ρ:Env) (aM:World)=>∃ (a8:(List (Option Nt))) (a9:List ByteArray) (au:Value),(a8,a9)=eK/\Box aM H [(.map (some G)),au] 147/\MapAt aM G a9/\Own 174 (au::pt H::pt G::L) aM au a8/\(Frs w au)/\(Qv au≠some H)/\(Qv au≠some G)/\Ext w aM) ?_ ?_
    ·intro fI dt;refine QF<|Xi (fun sv ρ ao=>∃ (aA:Int) (aR:(List (Option Nt))) (aS:List ByteArray) (U:Value),(aA,aR,aS)=sv/\ρ 0=(pt H)/\ρ 6=J/\ρ 39=ar/\ρ 40=(Iv (aJ.length:Int))/\ρ 41=(Iv aA)/\SlRd (U::pt H::pt G::L) ao J az/\SlRd (U::pt H::pt G::L) ao ar aJ/\Box ao H [(.map (some G)),U] 147/\MapAt ao G aS/\Own 174 (U::pt H::pt G::L) ao U aR/\(Frs w U)/\(Qv U≠some H)/\(Qv U≠some G)/\Ext w ao) dC ⟨0,([]:List (Option Nt)),aQ,Sno,rfl,bj,rfl,rfl,rfl,rfl,(((((cx.step (Qt aE Qu)).sub Qka).step (Qt aF XU)).step (Zt _)).sub Qce),((cz.step (Zt _)).sub Qce),dc,((cv.chg aE (X8 b0)).chg aF (QO ce)),(eu.sub Qce),(fun b h=>Zo b h),(fun h=>by cases h),(fun h=>by cases h),(QR (Yp cj aE bV) aF cO)⟩ ?_;rintro _ ρ ao ⟨aA,aR,aS,U,rfl,dU,dV,b9,ca,a0,er,bw,bP,bQ,cA,bW,b3,b4,ck⟩ f2 h d6 fH dr;refine Qd<|Qa (Q2 a0 ca)<|Qb<|Qh fun fJ du=>Qo h rfl (fun _ h=>?_) (fun _ h=>?_)
     ·refine Qp<|du _ _<|Qh fun fK dv=>QF<|Qd<|Qc a0<|bnd h fun bL bE h=>?_;have hq:=SlRd.at bw bE;obtain ⟨fi,cV,c2⟩:=hq;obtain ⟨cQ,rfl,cB⟩:=c2;refine Qa (QT Tryz.underlying177 QGn bw bE b9 a0)<|Qa (Qj Quw rfl cV)<|Qe rfl<|Qe rfl<|Qb<|Qd<|Qc rfl<|Qa (QK rfl Tryz.underlying188 cB rfl)<|Qc rfl<|Qb<|bnd h fun eL dD dM=>Q3 (fun (ρ:Env) (ap:World)=>∃ (ba:(List (Option Nt))) (bb:List ByteArray) (ae:Value),(ba,bb)=eL/\ρ 0=(pt H)/\ρ 6=J/\ρ 39=ar/\ρ 40=(Iv (aJ.length:Int))/\ρ 41=(Iv aA)/\SlRd (ae::pt H::pt G::L) ap J az/\SlRd (ae::pt H::pt G::L) ap ar aJ/\Box ap H [(.map (some G)),ae] 147/\MapAt ap G bb/\Own 174 (ae::pt H::pt G::L) ap ae ba/\(Frs w ae)/\(Qv ae≠some H)/\(Qv ae≠some G)/\Ext w ap) ?_ ?_
      ·intro fM dw;refine QF<|Xi (fun sv ρ ag=>∃ (aT:Int) (aU:(List (Option Nt))) (aN:List ByteArray) (M:Value),(aT,aU,aN)=sv/\ρ 0=(pt H)/\ρ 6=J/\ρ 7=(Iv aA)/\ρ 39=ar/\ρ 40=(Iv (aJ.length:Int))/\ρ 41=(Iv aA)/\ρ 46=cQ/\ρ 47=(Iv (bL.length:Int))/\ρ 48=(Iv aT)/\SlRd (M::pt H::pt G::L) ag J az/\SlRd (M::pt H::pt G::L) ag ar aJ/\SlRd (M::pt H::pt G::L) ag cQ bL/\Box ag H [(.map (some G)),M] 147/\MapAt ag G aN/\Own 174 (M::pt H::pt G::L) ag M aU/\(Frs w M)/\(Qv M≠some H)/\(Qv M≠some G)/\Ext w ag) dD ⟨0,aR,aS,U,rfl,dU,dV,rfl,b9,ca,a0,rfl,rfl,rfl,er,bw,cB,bP,bQ,cA,bW,b3,b4,ck⟩ ?_;rintro _ ρ ag ⟨aT,aU,aN,M,rfl,an,a1,bk,bm,bn,bo,bp,bq,a2,cC,cD,bx,be,bf,bz,aX,aZ,aH,bt⟩ f4 h d7 fL bS;refine Qd<|Qa (Q2 a2 bq)<|Qb<|Qh fun fN dx=>Qo h rfl (fun _ h=>?_) (fun _ h=>?_)
       ·refine Qp<|dx _ _<|Qh fun fO bT=>QF<|Qd<|bnd h fun ah bF h=>?_;have hq:=SlRd.at bx bF;obtain ⟨fj,cW,c3⟩:=hq;obtain ⟨cR,eB,rfl⟩:=c3;refine Qa (QT Tryz.underlying188 QGo bx bF bp a2)<|Qa (Q7 cW QIv rfl)<|Qg rfl (Xl Q6y ?_);intro br fx V ab di;have b5:br≠G:=JE bf.lt V;have dN:=Ja bz V;have eC:=bz.step (QA ab V) ab (fun _ _=>Et _);have cE:=eB.step (QA ab V);refine Qg rfl (Xc QGo rfl rfl rfl rfl di rfl (Qk rfl (Qk rfl (Qk rfl (Qk cE.one1 QH)))) rfl ?_);intro fy Y bR;have cG:=(cC.step (QA ab V)).step (Qt Y Qu);have cH:=(cD.step (QA ab V)).step (Qt Y Qu);have cI:=(bx.step (QA ab V)).step (Qt Y Qu);have cJ:=eC.step (Qt Y Qu) Y (XF dN);have a5:=(be.ext ab).chg Y (QO (Xg be V));have bA:=(bf.ext ab).chg Y (QO b5);have cK:=cE.step (Qt Y Qu);have cm:=QR (bt.trans ab) Y (Xb bt V);refine Qb<|Qd<|Qa (Qm 3 Tryz.underlying191 ⟨0,QGm⟩ rfl rfl)<|Qa (Qj Qjq rfl (At.drop (Box.at bR) 3))<|bnd h fun bM c1 h=>?_;have hq:=PtRd.get cK c1;obtain ⟨fQ,d1,eD⟩:=hq;have hq:=PtAt.at eD;obtain ⟨fk,cX,c4⟩:=hq;obtain ⟨fX,fY,fZ,f0,cS,cT,fT,fU,fV,fW,eE,eF,rfl⟩:=c4;refine Qa (ZU d1 rfl)<|Qa (Qm 4 Tryz.underlying125 ⟨2,XZ⟩ rfl rfl)<|Qa (Q7 (At.take (At.drop cX 4) 3) YE rfl)<|bnd h fun cP dS h=>Qg rfl (Qs Tryz.func9 nm9 rfl (QI rfl) (Qms [] _ (LtL.nil _) (e9.ext cm) [cS,cT,(Iv bM.Nf.Ni)] bM.Nf ⟨cS,cT,(eE.sub QG),(eF.sub QG),rfl⟩ cP dS) ?_);rintro _ fz ⟨I,rfl⟩;have cn:=cm.trans I;refine Qe rfl<|Qb<|Qd<|Qc an<|Qa (Yn rfl)<|Qa (Qm 0 Tryz.underlying147 ⟨0,Qkc⟩ rfl rfl)<|Qa (Qj Qjr rfl (Box.at (a5.ext I)))<|Qc rfl<|Qa (Qpy Tryz.underlying144 Tryz.underlying9 (by kernel_rfl) rfl rfl (bA.ext I))<|Qa (XK rfl)<|Qb<|Qo h rfl (fun _ h=>?_) (fun _ h=>?_)
        ·refine Qd<|Qc an<|Qa (Yn rfl)<|Qa (Qm 0 Tryz.underlying147 ⟨0,Qkc⟩ rfl rfl)<|Qa (Qj Qjr rfl (Box.at (a5.ext I)))<|Qc rfl<|Qg rfl (Qem Tryz.underlying144 Tryz.underlying9 rfl rfl rfl (bA.ext I) ?_);intro fA aa aV;have bB:=(cG.ext I).step (Qt aa ZD);have bC:=(cJ.ext I).step (Qt aa ZD) aa (XF aH);have aP:=(a5.ext I).chg aa (QO ce.symm);have cL:=(cK.ext I).step (Qt aa ZD);have a6:=(bR.ext I).chg aa (QO b5.symm);refine Qb<|Xw Xu (.p 0 (.p 1 (.p 2 (.p 3 (.p 5 (.p 7 (.p 8 (.p 9 (.p 11 (.q 4 (.q 6 (.q 10 (.q 12 (.p 13 (.m (.a 14 (.m (.a 15 (.m (.c 16 (.p 17 (.p 18 (.m (.c 19 .done .z)))) .z)) .z)) .z)))))))))))))))) (by kernel_rfl) rfl ?_;intro ea O;have co:=(QR cn aa (Xb bc eU)).trans O;refine Qw rfl rfl (fun w'=>Qq an)<|Qw rfl rfl (fun w'=>Qq an)<|Qy rfl (fun w'=>Yn rfl)<|Qy rfl (fun w'=>Qm 1 Tryz.underlying147 ⟨0,Qcf⟩ rfl rfl)<|Qy rfl (fun w'=>Qm 3 Tryz.underlying191 ⟨0,QGm⟩ rfl rfl)<|Qw rfl rfl (fun w'=>Qq a1)<|Qw rfl rfl (fun w'=>Qq bk)<|bnd h fun fm bG h=>?_;have hq:=SlRd.at bB bG;obtain ⟨fl,cY,c5⟩:=hq;obtain ⟨bH,cM,rfl⟩:=c5;refine Qy rfl (fun w'=>QT Tryz.underlying145 Q3h bB bG rfl rfl)<|Qy rfl (fun w'=>Qm 0 Tryz.underlying191 ⟨2,ZF⟩ rfl rfl)<|QX rfl (fun w' hS=>Qj Qjs rfl (At.drop (Box.at (aP.ext (O.trans hS))) 1))<|QX rfl (fun w' hS=>Qj Qjq rfl (At.drop (Box.at (a6.ext (O.trans hS))) 3))<|QX rfl (fun w' hS=>Qj Q0e rfl (cY.ext' (O.trans hS)))<|QX rfl (fun w' hS=>Q7 (At.take (Box.at (a6.ext (O.trans hS))) 3) Zk rfl) ?_;have eG:OpqRd (pt br::M::pt H::pt G::L) ea bH Opq.mk:=(cM.ext O).one1;refine Qy rfl (fun w'=>XD Qxp (QE rfl (XL cL.one1) (QE rfl (XL cM.one1) (QE rfl rfl QU))) rfl)<|QV<|QS rfl (Xy (cs:=[cR,bH,(Iv ah.Ny.Kind),(Iv ah.Ny.A),(Iv ah.Ny.B)]) rfl rfl ?_);intro a4 eb aD aW dk;have dO:a4≠G:=JE (aV.ext O).lt aD;have dP:=Ja (bC.ext O) aD;have aB:=O.trans aW;have cp:=co.trans aW;refine ⟨aW,QV ?_⟩;have cN:PtRd (pt br::M::pt H::pt G::L) eb (pt a4) (some (Nt.mk ah.line Opq.mk ah.Ny)):=PtRd.of_box dk (Eg (Eg (Eg (Eg (Qag hL (Xb co aD)) (Qhu dO.symm)) (Qhu (Xg (aP.ext O) aD).symm)) dP) (Qhu (Xg (a6.ext O) aD).symm)) ⟨cR,bH,(cL.ext aB),(eG.ext aW),rfl⟩;refine QS rfl (XI (xs:=([(some (Nt.mk ah.line Opq.mk ah.Ny))]:List (Option Nt))) Tryz.underlying145 Qrm rfl (QE rfl (XL cN.one1) QU) rfl (Elems.cons (cs:=[(pt a4)]) ⟨(pt a4),cN,rfl⟩ Elems.nil) rfl (QZ (YM (QZ (Qbu (hL.chg cp) (aV.ext aB).lt) (aP.ext aB)) (bC.ext aB)) (a6.ext aB)) ?_);intro fR fB bg eH;have aq:=aB.trans bg;have cq:=cp.trans bg;refine ⟨bg,Yo<|bnd h fun ec d8 h=>Zm rfl (ZA Tryz.underlying145 Qrm rfl rfl rfl rfl ((bC.ext aq).sub Jb) (eH.sub Jb) d8 ?_)⟩;intro bI fC av ak bD;have b6:=YN ak aZ (aP.ext aq);have dQ:Qv bI≠some G:=Qtf ak aH (aV.ext aq).lt;refine Qy rfl (fun w'=>Yn rfl)<|Qy rfl (fun w'=>Qm 1 Tryz.underlying147 ⟨0,Qcf⟩ rfl rfl)<|Yo<|Zm rfl (Y9 (cs':=[(.map (some G)),bI]) Qcf (XL bD.one1) rfl rfl rfl ((aP.ext aq).chg av (X8 aZ)) rfl (Qk bD.one1 QH) rfl ?_);intro fD am dl;refine Xn<|bT _ _<|Qz<|Qa (QN a2 rfl)<|Qc rfl<|Qb ?_;replace h:=Qf h;subst h;refine bS _ _ _ rfl ?_;exact ⟨w64 (aT+1),ec,(ZN aN cP),bI,rfl,an,a1,bk,bm,bn,bo,bp,bq,rfl,(((((bB.ext aq).sub Jb).step (Stepp.swap av ak)).step (Qt am ZC)).sub Qce),(((((((cH.ext I).step (Qt aa ZD)).ext aq).sub Jb).step (Stepp.swap av ak)).step (Qt am ZC)).sub Qce),(((((((cI.ext I).step (Qt aa ZD)).ext aq).sub Jb).step (Stepp.swap av ak)).step (Qt am ZC)).sub Qce),dl,(((aV.ext aq).chg av (X8 aH)).chg am (QO ce)),((bD.step (Qt am ZC) am (XF b6)).sub Qce),(YI ak aX cq.size),b6,dQ,(QR (Yp cq av aX) am cO)⟩
        ·refine Qp<|bT _ _<|Qz<|Qa (QN a2 rfl)<|Qc rfl<|Qb ?_;replace h:=Qf h;subst h;refine bS _ _ _ rfl ?_;exact ⟨w64 (aT+1),aU,aN,M,rfl,an,a1,bk,bm,bn,bo,bp,bq,rfl,((cG.ext I).sub Qka),((cH.ext I).sub Qka),((cI.ext I).sub Qka),(a5.ext I),(bA.ext I),((cJ.ext I).sub Qka),aX,aZ,aH,cn⟩
       ·refine Xe ?_;replace h:=Qf h;subst h;have ho:=d7 _ rfl;subst ho;refine dw _ _ ?_;exact ⟨aU,aN,M,rfl,an,a1,bm,bn,bo,cC,cD,be,bf,bz,aX,aZ,aH,bt⟩
      ·rintro ρ ap ⟨ba,bb,ae,rfl,dW,dX,dY,dZ,d0,ey,ez,df,dh,eA,dA,dK,dL,ej⟩;replace h:=dM;refine dv _ _<|Qz<|Qa (QN d0 rfl)<|Qc rfl<|Qb ?_;replace h:=Qf h;subst h;refine dr _ _ _ rfl ?_;exact ⟨w64 (aA+1),ba,bb,ae,rfl,dW,dX,dY,dZ,rfl,ey,ez,df,dh,eA,dA,dK,dL,ej⟩
     ·refine Xe ?_;replace h:=Qf h;subst h;have ho:=d6 _ rfl;subst ho;refine dt _ _ ?_;exact ⟨aR,aS,U,rfl,bP,bQ,cA,bW,b3,b4,ck⟩
    ·rintro ρ aM ⟨a8,a9,au,rfl,dd,de,ew,dz,dH,dI,ei⟩;replace h:=dJ;refine ⟨[],trivial,?_⟩;refine Qb ?_;replace h:=Qf h;subst h;refine dn _ _ _ rfl ?_;exact ⟨a8,a9,au,rfl,aI,dd,de,ew,dz,dH,dI,ei⟩
   ·refine Xe ?_;replace h:=Qf h;subst h;have ho:=d5 _ rfl;subst ho;refine dp _ _ ?_;exact ⟨az,aQ,J,rfl,aI,ai,aC,aO,bU,bY,bZ,bs⟩
  ·rintro ρ aL ⟨bJ,bK,ay,rfl,b8,bN,bO,fS,fo,fp,fq,eg⟩;replace h:=dE;refine eR _ _<|Qh fun fP dy=>Qd<|Qc b8<|Qa (Yn rfl)<|Qa (Qm 0 Tryz.underlying147 ⟨0,Qkc⟩ rfl rfl)<|Qa (Qj Qjr rfl (Box.at bN))<|Qa (Qwk rfl Tryz.underlying144 rfl bO)<|Qa (XP rfl rfl)<|Qb<|Qo h rfl (fun _ h=>?_) (fun _ h=>?_)
   ·cases h
   ·refine Qp<|dy _ _<|Qd<|Qc b8<|Qa (Yn rfl)<|Qa (Qm 0 Tryz.underlying147 ⟨0,Qkc⟩ rfl rfl)<|Qa (Qj Qjr rfl (Box.at bN))<|Qa (Qwk rfl Tryz.underlying144 rfl bO)<|Qe rfl<|Qe rfl<|Qb<|Qr ?_;replace h:=Qf h;subst h;exact ⟨[_,_],⟨rfl,rfl,trivial⟩,eg,rfl⟩

noncomputable def Qsi:Option Bool:=(Eb (Qsh) fun V=>(Eb (QAs V) fun I=>(Eb (Qsh) fun O=>(Eb (QAc) fun U=>(Eb (QAz O U) fun H=>(Eb (QBa (Nj.mk 1 0 0) 5) fun G=>(Eb (QAy (Ng.mk ([(ByteArray.mk #[97])]:List ByteArray) ([(ByteArray.mk #[116])]:List ByteArray) [] [])) fun J=>(Eb (bif (((decide (I.2=0))&&(decide ((I.1.length:Int)=3)))&&(decide (H.2.2=0)))then Qer (Nf.mk H.1.Nb H.1.Na H.1.Ni)else some default) fun M=>some ((((((((decide (I.2=0))&&(decide ((I.1.length:Int)=3)))&&(decide (H.2.2=0)))&&(decide (M=(ByteArray.mk #[48,32,48,32,49,58,48,44,49,32,45]))))&&(decide (G.2=0)))&&(decide ((Nw.mk G.1.e0 G.1.e1 G.1.e2 G.1.e3 G.1.e4)=(Nw.mk 1 0 0 5 31))))&&(decide (J.2=0)))&&(decide (J.1=2)))))))))))
theorem QPu (L:List Value) (w:World) (hL:LtL L w) (aQ:gtab1 w) (r:Bool) (h:Qsi=some r):CallsTo Tryz.prog 5 [] w (fun v w'=>Ext w w'/\(.bool r)=v):=by
 have e0:=QM w;refine QL (n:=67) (rs:=[.tmp 0]) Tryz.func5 rfl rfl rfl rfl rfl<|QC rfl<|Qd<|bnd h fun r3 bb h=>Qg rfl (Qs Tryz.func30 QCq rfl ev0 (QAd (hL.chg e0) bb) ?_);rintro _ bK ⟨ba,bn,rfl,aG⟩;have aJ:=e0.trans ba;obtain ⟨v7,v9,aR,aS,h8,a2,a3,a4,rfl⟩:=aG;refine bnd h fun bc aX h=>Qg rfl (Qs Tryz.func29 QVh rfl (QI rfl) (@QQl _ L _ (hL.chg aJ) [v7,v9,aR,aS] r3 ⟨v7,v9,aR,aS,h8,a2,a3,a4,rfl⟩ bc aX) ?_);rintro _ bq ⟨aW,bE,rfl,a5⟩;have aK:=aJ.trans aW;refine Qc rfl<|Qa (Xa rfl rfl)<|Qa (Xa rfl rfl)<|Qe rfl<|Qe rfl<|Qb<|Qd<|bnd h fun bC aY h=>Qg rfl (Qs Tryz.func30 QCq rfl ev0 (QAd (hL.chg aK) aY) ?_);rintro _ br ⟨ay,bo,rfl,ak⟩;have aL:=aK.trans ay;have a9:=ak;obtain ⟨bF,bG,bH,bI,bx,bz,bA,bB,rfl⟩:=ak;refine bnd h fun bD aZ h=>Qg rfl (Qs Tryz.func31 QVi rfl ev0 (QPt (hL.chg aL) aZ) ?_);rintro _ bs ⟨ai,bJ,rfl,a6⟩;have aM:=aL.trans ai;refine bnd h fun al a0 h=>Qg rfl (Qs Tryz.func22 QVc rfl (QY rfl rfl) (QQt (hL.chg aM) (a9.ext ai) a6 a0) ?_);rintro _ bt ⟨az,bp,rfl,aH⟩;have aN:=aM.trans az;obtain ⟨aT,aU,a7,a8,rfl⟩:=aH;refine Qc rfl<|Qa (Xa rfl rfl)<|Qa (Xa rfl rfl)<|Qa (Xa rfl rfl)<|Qg rfl (Xl Jk ?_);intro bw bu aa ag aV;have aO:=a7.step (QA ag aa);have aP:=a8.step (QA ag aa);refine Qg rfl (Xc XZ rfl rfl rfl rfl aV rfl (Qk aO.one1 (Qk aP.one1 (Qk rfl QH))) rfl ?_);intro bv ab ax;refine Qe rfl<|Qe rfl<|Qb<|Qd<|Qa (XD Qay (QE rfl rfl QU) rfl)<|bnd h fun M aD h=>Qg rfl (Qs Tryz.func26 QVg rfl (QY rfl rfl) (@QQv _ [] _ (LtL.nil _) [(Iv 1),(Iv 0),(Iv 0)] (Nj.mk 1 0 0) rfl 5 M aD) ?_);rintro _ be ⟨G,bd,rfl,aA⟩;have ao:=(QR (aN.trans ag) ab (Xb aN aa)).trans G;cases aA;refine Qc rfl<|Qa (Xa rfl rfl)<|Qa (Xa rfl rfl)<|Qg rfl (Xl Qkp ?_);intro bm bf H J aC;refine Qg rfl (Xc Qvq rfl rfl rfl rfl aC rfl (Qk rfl (Qk rfl (Qk rfl (Qk rfl (Qk rfl QH))))) rfl ?_);intro bg I Y;have ah:=(ax.ext (G.trans J)).chg I (QO (Xg (ax.ext G) H));have ap:=QR (ao.trans J) I (Xb ao H);refine Qe rfl<|Qb<|Qd<|Qg rfl (XI (xs:=([(ByteArray.mk #[97])]:List ByteArray)) Tryz.underlying22 ZM rfl (QE rfl rfl QU) rfl (Elems.cons (cs:=[(.string (ByteArray.mk #[97]))]) rfl Elems.nil) rfl (QZ (QZ (hL.chg ap) ah) Y) ?_);intro am bh O av;have aq:=ap.trans O;refine Qg rfl (XI (xs:=([(ByteArray.mk #[116])]:List ByteArray)) Tryz.underlying22 ZM rfl (QE rfl rfl QU) rfl (Elems.cons (cs:=[(.string (ByteArray.mk #[116]))]) rfl Elems.nil) rfl (QZ (QZ (hL.chg aq) (ah.ext O)) (Y.ext O)) ?_);intro an bj ae aw;have ar:=aq.trans ae;refine Qa (XD Qxq (QE rfl (XL av.one1) (QE rfl (XL aw.one1) QU)) rfl)<|bnd h fun a1 aE h=>Qg rfl (Qs Tryz.func32 QVj rfl (QI rfl) (QQp [] _ (LtL.nil _) (aQ.ext ar) [(.slice (some ⟨am,0,none⟩) 1 1),(.slice (some ⟨an,0,none⟩) 1 1),Sno,Sno] (Ng.mk ([(ByteArray.mk #[97])]:List ByteArray) ([(ByteArray.mk #[116])]:List ByteArray) [] []) ⟨(.slice (some ⟨am,0,none⟩) 1 1),(.slice (some ⟨an,0,none⟩) 1 1),Sno,Sno,((av.ext ae).sub QG),(aw.sub QG),(SlRd.nil _ _),(SlRd.nil _ _),rfl⟩ a1 aE) ?_);rintro _ bk ⟨aj,rfl⟩;have V:=(O.trans ae).trans aj;have au:=ar.trans aj;refine Qc rfl<|Qa (Xa rfl rfl)<|Qa (Xa rfl rfl)<|Qe rfl<|Qe rfl<|Qb<|Qd<|Qc rfl<|Qa (Q9 rfl rfl)<|Qc rfl<|Ql (QD rfl) (fun hg=>Qq rfl)<|Ql (QD rfl) (fun hg=>QK rfl Tryz.underlying70 ((((((a5.ext ((ay.trans ai).trans az)).step (QA ag aa)).step (Qt ab Qu)).ext G).step (QA J H)).step (Qt I Qu)) (Qi hg))<|Ql (QD rfl) (fun hg=>Q9 (Qi hg) rfl)<|Qa (Xp rfl (fun hb=>Qi hb) rfl)<|Qc rfl<|Ql (QD rfl) (fun hg=>Qq rfl)<|Ql (QD rfl) (fun hg=>Q9 (Qi hg) rfl)<|Qa (Xp rfl (fun hb=>Qi hb) rfl)<|Qc rfl<|Ql (QD rfl) (fun hg=>Q7 (Box.at (ah.ext V)) YE rfl)<|bnd h fun aB aF h=>Qad _ (.string aB) (QD rfl) (fun hg=>Qs Tryz.func9 nm9 rfl (QI (Qi hg)) (Qms [] _ (LtL.nil _) (aQ.ext au) [aT,aU,(Iv al.1.Ni)] (Nf.mk al.1.Nb al.1.Na al.1.Ni) ⟨aT,aU,((((((aO.step (Qt ab Qu)).ext G).step (QA J H)).step (Qt I Qu)).ext V).sub QG),((((((aP.step (Qt ab Qu)).ext G).step (QA J H)).step (Qt I Qu)).ext V).sub QG),rfl⟩ aB (Xz hg aF)) (by rintro _ aI ⟨U,rfl⟩;exact ⟨rfl,U⟩)) ?_;intro aI U;refine Ql (QD rfl) (fun hg=>Jf (Qi hg) rfl)<|Qa (Xp rfl (fun hb=>Qi hb) rfl)<|Qc rfl<|Ql (QD rfl) (fun hg=>Qq rfl)<|Ql (QD rfl) (fun hg=>Q9 (Qi hg) rfl)<|Qa (Xp rfl (fun hb=>Qi hb) rfl)<|Qc rfl<|Ql (QD rfl) (fun hg=>Q7 (Box.at (Y.ext (V.trans U))) Qkx rfl)<|Ql (QD rfl) (fun hg=>Qpt Tryz.underlying63 QJ Qkp (QE rfl rfl (QE rfl rfl (QE rfl rfl (QE rfl rfl (QE rfl rfl QU))))) rfl)<|Ql (QD rfl) (fun hg=>Q6a QLj (Qi hg) (Qi hg) (QLq (Nw.mk M.1.e0 M.1.e1 M.1.e2 M.1.e3 M.1.e4) (Nw.mk 1 0 0 5 31)))<|Qa (Xp rfl (fun hb=>Qi hb) rfl)<|Qc rfl<|Ql (QD rfl) (fun hg=>Qq rfl)<|Ql (QD rfl) (fun hg=>Q9 (Qi hg) rfl)<|Qa (Xp rfl (fun hb=>Qi hb) rfl)<|Qc rfl<|Ql (QD rfl) (fun hg=>Qq rfl)<|Ql (QD rfl) (fun hg=>Q9 (Qi hg) rfl)<|Qa (Xp rfl (fun hb=>Qi hb) rfl)<|Qe rfl<|Qb<|Qr ?_;replace h:=Qf h;subst h;exact ⟨[_],⟨rfl,trivial⟩,(au.trans U),rfl⟩

end Go.Gw

end
section
set_option maxRecDepth 100000
namespace Go.Gw
open Go
theorem QJi:Qsi=some true:=by decide +kernel
end Go.Gw

end
section
set_option maxRecDepth 4096
namespace Go.Gw
open Go
theorem QPc (n:Int):Qgk n=some (decide (0<=n)&&decide (n<=6)):=rfl
end Go.Gw

end
section
set_option maxRecDepth 4096
namespace Go.Gw
open Go
def Qeg (n:Int):Bool:=decide (0<=n)&&decide (n<=250)
end Go.Gw

end
section
set_option maxRecDepth 4096
namespace Go.Gw
open Go
attribute [local irreducible] loop
noncomputable def vb (el:Nw) (l:List (List Nw)) (i:Int):Option (Int⊕((Nw×Int)⊕Unit)):=Eb (Q0u l) fun H=>Eb (QSa el) fun G=>Eb (bif (decide (G=0))then Q1c H el else some default) fun I=>bif ((decide (G=0))&&I)then some (.inr (.inl (el,0)))else some (.inl (w64 (i+1)))
end Go.Gw

end
section
set_option maxRecDepth 4096
namespace Go.Gw
open Go
attribute [local irreducible] loop
end Go.Gw

end
section
set_option maxRecDepth 4096
namespace Go.Gw
open Go
attribute [local irreducible] loop
theorem Q2d {α:Type} (p:α->Bool):∀ (l:List α) (k:Nat),(Xt (β:=Int) (YP p (fun k _=>(k:Int)) k l) fun (_:Unit)=>some (-1))=some (match YP p (fun k _=>(k:Int)) k l with | .inl i=>i | .inr _=>-1)
 | l,k=>by cases YP p (fun k _=>(k:Int)) k l<;>rfl
theorem QGa {α:Type} (p:α->Bool):∀ (l:List α) (k:Nat),decide (0<=(match YP p (fun k _=>(k:Int)) k l with | .inl i=>i | .inr _=>(-1:Int)))=l.any p
 | [],k=>by simp [YP]
 | x::xs,k=>by
  by_cases h:p x=true
  ·simp [YP,h]
  ·simp only [YP,h,List.any_cons];have:=QGa p xs (k+1);simpa [h] using this
theorem J0 {α ρ:Type} {p:α->Bool} {res:Nat->α->ρ}:∀ (l:List α) (k:Nat),(YP p res k l=.inr ()/\l.any p=false)\/∃ j x,YP p res k l=.inl (res j x)/\p x=true/\l.any p=true
 | [],k=>.inl ⟨rfl,rfl⟩
 | x::xs,k=>by
  by_cases h:p x=true
  ·exact .inr ⟨k,x,by simp [YP,h],h,by simp [h]⟩
  ·rcases J0 xs (k+1) (p:=p) (res:=res) with ⟨G,H⟩ | ⟨j,y,G,H,I⟩
   ·exact .inl ⟨by simp [YP,h,G],by simp [h,H]⟩
   ·exact .inr ⟨j,y,by simp [YP,h,G],H,by simp [I]⟩
def Ye (f:Nat->Int) (n:Nat):Option Nat:=(List.range n).find? fun i=>decide (f i≠0)
theorem Qrr (f:Nat->Int) (n:Nat):(Ye f n=none/\∀ j,j < n->f j=0)\/∃ i,Ye f n=some i/\i < n/\f i≠0/\∀ j,j < i->f j=0:=by
 cases h:Ye f n with
 | none =>
  refine .inl ⟨rfl,fun j hj=>?_⟩;have:=List.find?_eq_none.1 h j (List.mem_range.2 hj);simpa using this
 | some i =>
  right;obtain ⟨G,H,I⟩:=List.find?_range_eq_some.1 h;exact ⟨i,rfl,List.mem_range.1 H,by simpa using G,fun j hj=>by have:=I j hj;simpa using this⟩
theorem Qgm {σ ρ μ:Type} {step:σ->Option (σ⊕(ρ⊕μ))} (S:Nat->σ) (n:Nat) (f:Nat->Int) (res:Nat->Int->ρ) (o:μ)
  (hs:∀ k,k < n->(∀ j,j < k->f j=0)->step (S k)=if f k=0 then some (.inl (S (k+1)))else some (.inr (.inl (res k (f k))))) (he:(∀ j,j < n->f j=0)->step (S n)=some (.inr (.inr o))) :
  loop step (S 0)=some (match Ye f n with | some i=>.inl (res i (f i)) | none=>.inr o):=by
 rcases Qrr f n with ⟨H,G⟩ | ⟨i,H,G,J,I⟩
 ·rw [H];exact Qsy S n (fun k hk=>by rw [hs k hk fun j hj=>G j (by omega),if_pos (G k hk)]) (he G)
 ·rw [H];exact Qsy S i (fun k hk=>by rw [hs k (by omega) fun j hj=>I j (by omega),if_pos (I k hk)]) (by rw [hs i G I,if_neg J])
/-! ### Names -/
def Qqo (q:Int×Nat):Bool:=(!(((decide (97<=q.1))&&(decide (q.1<=122)))||((decide (65<=q.1))&&(decide (q.1<=90)))))&&((decide ((q.2:Int)=0))||((!decide (q.1=45))&&((decide (q.1 < 48))||(decide (57 < q.1)))))
def bi (s:ByteArray):List Int:=bl s
theorem Qxs (s:ByteArray):(bi s).length=s.size:=Zn s
theorem QOk {s:ByteArray} {k:Nat} (h:k < (bi s).length):idx (α:=Int) (bl s) (k:Int)=some (bi s)[k]:=Xo (xs:=bi s) h
def Qgr (s:ByteArray):Bool:=decide (1<=s.size)&&(decide (s.size<=12)&&!((bi s).zipIdx.any Qqo))
theorem Qqn (s:ByteArray):Qga s=some (Qgr s):=by
  unfold Qga Qgr;have hlen:(bi s).zipIdx.length=s.size:=by rw [List.length_zipIdx,Qxs]
  by_cases h:1<=s.size/\s.size<=12
  · have : (decide ((s.size : Int) < 1) || decide (12 < (s.size : Int))) = false := by
      rw [decide_eq_false (by omega),decide_eq_false (by omega)];rfl
    rw [this,cond_false,Z0 (bi s).zipIdx Qqo (fun _ _=>false),Ea]
    · rcases J0 (p:=Qqo) (res:=fun _ _=>false) (bi s).zipIdx 0 with ⟨G,I⟩ | ⟨j,x,G,I,J⟩
      · rw [G,I];simp [h,Xt]
      · rw [G,J];simp [Xt]
    · intro k hk;rw [hlen] at hk;unfold Qqt;rw [XT hk,cond_true,QOk (show k < (bi s).length by rw [Qxs];exact hk),Ea,Xk k (by omega)];simp only [List.getElem_zipIdx,Nat.zero_add];rfl
    · rw [hlen];unfold Qqt;rw [XR];rfl
  · have : (decide ((s.size : Int) < 1) || decide (12 < (s.size : Int))) = true := by
      by_cases H:s.size < 1
      · rw [decide_eq_true (by omega)];rfl
      · rw [decide_eq_true (p:=12 < (s.size:Int)) (by omega)];simp
    rw [this,cond_true];congr 1;by_cases H:1<=s.size
    · rw [decide_eq_false (p:=s.size<=12) (by omega)];simp
    · rw [decide_eq_false H];rfl
theorem Qbq (n lo hi:Int):ZL n lo hi=some (decide (lo<=n)&&decide (n<=hi)):=rfl
theorem Qro {α:Type} [DecidableEq α]:∀ (a b:List α) (hl:a.length=b.length) (k:Nat),(Xt (YP (fun (x:α×α)=>!decide (x.1=x.2)) (fun _ _=>false) k (a.zip b)) fun (_:Unit)=>some true)=some (decide (a=b))
 | [],[],_,k=>by simp [YP,Xt]
 | [],_::_,hl,_=>by simp at hl
 | _::_,[],hl,_=>by simp at hl
 | x::a,y::b,hl,k=>by
  by_cases hxy:x=y
  ·subst hxy;have:=Qro a b (by simpa using hl) (k+1);simp only [List.zip_cons_cons,YP];simpa using this
  ·simp [YP,hxy,Xt]
theorem Qqb {α:Type} {a b:List α} (hl:a.length=b.length):(a.zip b).length=a.length:=by simp [hl]
theorem Qai {α:Type} (l:List α) (f:α->Int) (k:Nat) (hk:k < l.length):(l[k]?.map f).getD 0=f l[k]:=by rw [Eh hk];rfl
theorem Qfi {α β:Type} (l:List α) (f:α->β) (k:Nat) (hk:k < l.length):(l.take k).map f++[f l[k]]=(l.take (k+1)).map f:=by
 rw [List.take_add_one,Eh hk,List.map_append];rfl
theorem QIb {α β:Type} {a:List α} {b:List β} (hl:a.length=b.length):(a.zip b).length=a.length:=by simp [hl]
theorem Qyi {α:Type} {xs:List α} {k:Nat} (h:k<=xs.length):cut xs 0 (k:Int)=some (xs.take k):=by
 unfold cut;rw [if_pos (by omega),Int.toNat_natCast];rfl
theorem Qxd {α:Type} [DecidableEq α] (l:List α) (v:α):(l.any fun x=>decide (x=v))=decide (v∈l):=by
 rw [El];simp
def Qmk {α:Type} (p:α->Bool) (l:List α):Int:=match YP p (fun k _=>(k:Int)) 0 l with | .inl i=>i | .inr _=>(-1:Int)
theorem QPf {α:Type} (p:α->Bool) (l:List α):decide (0<=Qmk p l)=l.any p:=QGa p l 0
end Go.Gw

end
section
set_option maxRecDepth 4096
namespace Go.Gw
open Go
attribute [local irreducible] loop
def Qaj (s:ByteArray) (others:List ByteArray):Int:=bif Qgr s then(bif Z3 others s then 5 else 0)else 4
def JW (l:List ByteArray) (k:Nat):Int:=(l[k]?.map fun s=>Qaj s (l.take k)).getD 0
def Zb (p:Ng) (n:Int):Bool:=decide (0<=n)&&decide (n<=(p.Nd.length:Int) - 1)
def swX (p:Ng) (k:Nat) (s:Nv):Int:=bif Zb p s.Nm then(bif (p.Nb.take k).any (fun o=>decide (o.Nm=s.Nm))then 26 else 0)else 6
def swE (p:Ng) (k:Nat) (s:Nv):Int:=if Qaj s.Name ((p.Nb.take k).map (·.Name))=0 then swX p k s else Qaj s.Name ((p.Nb.take k).map (·.Name))
def Qar (p:Ng) (k:Nat):Int:=(p.Nb[k]?.map (swE p k)).getD 0
def rsE (p:Ng) (r:Np) (k:Nat) (s:Int):Int:=bif Zb p s then(bif decide (s∈r.Nd.take k)then 26 else 0)else 6
def Qbz (p:Ng) (r:Np) (k:Nat):Int:=(r.Nd[k]?.map (rsE p r k)).getD 0
def Qde (r:Np) (q:Int×Nv):Bool:=bif decide (q.2.Nm∈r.Nd)then !(decide (q.1=0)||decide (q.1=1))else !decide (q.1=-1)
def rtX (p:Ng) (r:Np):Int :=
 if r.Nd.length < 2 then 10 else if p.Nd.length < r.Nd.length then 8 else
 match Ye (Qbz p r) r.Nd.length with
 | some i=>Qbz p r i
 | none=>if r.Nu.length=p.Nb.length then(bif (r.Nu.zip p.Nb).any (Qde r)then 2 else 0)else 10
def rtE (p:Ng) (k:Nat) (r:Np):Int:=if Qaj r.Name ((p.Nk.take k).map (·.Name))=0 then rtX p r else Qaj r.Name ((p.Nk.take k).map (·.Name))
def Qam (p:Ng) (k:Nat):Int:=(p.Nk[k]?.map (rtE p k)).getD 0
def Qja (p:Ng):Nr×Int :=
 if p.Nd.length=0\/p.Na.length=0 then(Nr.mk 0 0,10)else if 8 < p.Nd.length\/3 < p.Na.length\/4 < p.Nb.length\/10 < p.Nk.length then(Nr.mk 0 0,8)else
 match Ye (JW p.Nd) p.Nd.length with
 | some i=>(Nr.mk 1 i,JW p.Nd i)
 | none=>match Ye (JW p.Na) p.Na.length with
  | some i=>(Nr.mk 2 i,JW p.Na i)
  | none=>match Ye (Qar p) p.Nb.length with
   | some i=>(Nr.mk 3 i,Qar p i)
   | none=>match Ye (Qam p) p.Nk.length with
    | some i=>(Nr.mk 4 i,Qam p i)
    | none=>(Nr.mk 0 0,0)
structure PlantS (p:Ng):Prop where
 se:p.Nd.length < 1000
 tr:p.Na.length < 1000
 sw:p.Nb.length < 1000
 ro:p.Nk.length < 1000
 sn:∀ s∈p.Nd,s.size<=1000
 tn:∀ s∈p.Na,s.size<=1000
 wn:∀ s∈p.Nb,s.Name.size<=1000
 rn:∀ r∈p.Nk,r.Name.size<=1000/\r.Nd.length < 1000/\r.Nu.length < 1000
end Go.Gw

end
section
set_option maxRecDepth 4096
namespace Go.Gw
open Go
attribute [local irreducible] loop
theorem Qyj {α:Type} {xs:List α} (h:1<=xs.length):cut xs 1 (xs.length:Int)=some (xs.drop 1):=by
 unfold cut;rw [if_pos (by omega),Int.toNat_natCast,Eq_];rfl
structure StateS (x:Nf):Prop where
 sw:x.Nb.length < 1000
 tr:x.Na.length < 1000
 ch:∀ t∈x.Na,t.Nc.length < 1000
def Yz (x:Nf) (s:Int):Int:=Qmk (fun t:Nh=>decide (s∈t.Nc)) x.Na
def Qvr (x:Nf) (s:Int):Bool:=x.Na.any fun t=>decide (s∈t.Nc)
def Qsk (secs:List Int) (q:Nv×(Int×Int)):Bool:=decide (q.1.Nm∈secs)&&!decide (q.2.1=q.2.2)
def JU (p:Ng) (sw:List Int) (r:Np) (secs:List Int):Bool:=!((p.Nb.zip (r.Nu.zip sw)).any (Qsk secs))
/-! ### Events -/
def Qfp (p:Ng) (n:Int):Bool:=decide (0<=n)&&decide (n<=(p.Na.length:Int) - 1)
def Qkb (p:Ng) (n:Int):Bool:=decide (0<=n)&&decide (n<=(p.Nb.length:Int) - 1)
def Qjo (p:Ng) (n:Int):Bool:=decide (0<=n)&&decide (n<=(p.Nk.length:Int) - 1)
def Z4 (n:Int):Bool:=decide (n=0)||decide (n=1)
def Qen (p:Ng) (e:Nj):Int :=
 if ¬ (0<=e.Kind/\e.Kind<=6)then 15 else if e.Kind=2 then(bif Qkb p e.A then(bif Z4 e.B then 0 else 2)else 6)else
 bif Qfp p e.A then(if e.Kind=0 then(bif Zb p e.B then 0 else 6)else if e.Kind=1 then(bif Qjo p e.B then 0 else 6)else if e.B=0 then 0 else 3)else 6
def Qdp (x:Nf) (e:Nj):Nh:=x.Na[e.A.toNat]?.getD ⟨[],0⟩
def Q3c (p:Ng) (e:Nj):Nv:=p.Nb[e.A.toNat]?.getD ⟨ByteArray.mk #[],0⟩
def Qjm (p:Ng) (e:Nj):Np:=p.Nk[e.B.toNat]?.getD ⟨ByteArray.mk #[],[],[]⟩
def Q2f (p:Ng) (x:Nf) (e:Nj):Int :=
 if e.Kind=2 then(bif Qvr x (Q3c p e).Nm then 17 else 0)else
 if e.Kind=0 then(if (Qdp x e).Nc.length=0 then(bif Qvr x e.B then 17 else 0)else 22)else
 if (Qdp x e).Nc.length=0 then 22 else
 if e.Kind=1 then(if (Qjm p e).Nd.head?=(Qdp x e).Nc.getLast? then(bif ((Qjm p e).Nd.drop 1).any (Qvr x)then 17 else bif JU p x.Nb (Qjm p e) (Qjm p e).Nd then 0 else 13)else 23)else
 if e.Kind=4 then(if 1 < (Qdp x e).Nl then 0 else 12)else
 if e.Kind=3\/e.Kind=5 then(if (Qdp x e).Nl < (Qdp x e).Nc.length then 0 else 12)else
 if (Qdp x e).Nc.length=1 then 0 else 17
def trX (p:Ng) (t:Nh) (e:Nj):Nh :=
 if e.Kind=0 then ⟨[e.B],1⟩ else if e.Kind=1 then ⟨t.Nc++(Qjm p e).Nd.drop 1,t.Nl⟩ else if e.Kind=3 then ⟨t.Nc,t.Nl+1⟩ else
 if e.Kind=4 then ⟨t.Nc.drop 1,t.Nl - 1⟩ else if e.Kind=5 then ⟨t.Nc.take (t.Nc.length - 1),t.Nl⟩ else ⟨[],0⟩
def Q2s (p:Ng) (x:Nf) (e:Nj):Nf :=
 if e.Kind=2 then ⟨x.Nb.set e.A.toNat e.B,x.Na,x.Ni⟩ else ⟨x.Nb,x.Na.set e.A.toNat (trX p (Qdp x e) e),x.Ni⟩
end Go.Gw

end
section
set_option maxRecDepth 4096
namespace Go.Gw
open Go
attribute [local irreducible] loop
theorem Qie {f:Nat->Int} {n:Nat} (h:Ye f n=none):∀ j,j < n->f j=0:=by
 rcases Qrr f n with ⟨_,H⟩ | ⟨i,G,_⟩
 ·exact H
 ·rw [G] at h;cases h
theorem Qah {f:Nat->Int} {n i:Nat} (h:Ye f n=some i):i < n/\f i≠0/\∀ j,j < i->f j=0:=by
 rcases Qrr f n with ⟨G,_⟩ | ⟨j,G,H,I,J⟩
 ·rw [G] at h;cases h
 ·rw [G] at h;cases h;exact ⟨H,I,J⟩
theorem QNi {f:Nat->Int} {n:Nat} (h:∀ j,j < n->f j=0):Ye f n=none:=by
 cases hf:Ye f n with
 | none=>rfl
 | some i=>obtain ⟨G,H,_⟩:=Qah hf;exact absurd (h i G) H
theorem QDg {α:Type} {l:List α} (h:∀ k (hk:k < l.length),l[k]∉l.take k):l.Nodup:=by
 unfold List.Nodup;rw [Ep];intro i j hi hj hij e;refine h j hj ?_;rw [<-e];exact Ef.2 ⟨i,by omega,rfl⟩
theorem QWm {α:Type} {l:List α} (h:l.Nodup) {k:Nat} (hk:k < l.length):l[k]∉l.take k:=by
 intro hm;obtain ⟨i,hi,e⟩:=Ef.1 hm;unfold List.Nodup at h;rw [Ep] at h;exact h i k (by omega) hk (by omega) e
structure PlantOk (p:Ng):Prop where
 s1:1<=p.Nd.length
 s8:p.Nd.length<=8
 t1:1<=p.Na.length
 t3:p.Na.length<=3
 w4:p.Nb.length<=4
 r10:p.Nk.length<=10
 ws:∀ s∈p.Nb,Zb p s.Nm=true
 r2:∀ r∈p.Nk,2<=r.Nd.length
 r8:∀ r∈p.Nk,r.Nd.length<=p.Nd.length
 rs:∀ r∈p.Nk,∀ s∈r.Nd,Zb p s=true
 rd:∀ r∈p.Nk,r.Nd.Nodup
 rn:∀ r∈p.Nk,r.Nu.length=p.Nb.length
 rx:∀ r∈p.Nk,(r.Nu.zip p.Nb).any (Qde r)=false
theorem Qgx {p:Ng} {r:Np} (h:rtX p r=0):2<=r.Nd.length/\r.Nd.length<=p.Nd.length/\(∀ s∈r.Nd,Zb p s=true)/\r.Nd.Nodup/\r.Nu.length=p.Nb.length/\(r.Nu.zip p.Nb).any (Qde r)=false:=by
 unfold rtX at h;by_cases I:r.Nd.length < 2
 ·rw [if_pos I] at h;cases h
 rw [if_neg I] at h;by_cases J:p.Nd.length < r.Nd.length
 ·rw [if_pos J] at h;cases h
 rw [if_neg J] at h;cases hf:Ye (Qbz p r) r.Nd.length with
 | some i=>rw [hf] at h;exact absurd h (Qah hf).2.1
 | none =>
  rw [hf] at h;have hz:∀ k (hk:k < r.Nd.length),rsE p r k r.Nd[k]=0:=fun k hk=>by
   have:=Qie hf k hk;rwa [show Qbz p r k=rsE p r k r.Nd[k] from Qai _ _ _ hk] at this
  have G:∀ k (hk:k < r.Nd.length),Zb p r.Nd[k]=true/\r.Nd[k]∉r.Nd.take k:=fun k hk=>by
   have:=hz k hk;unfold rsE at this;cases hb:Zb p r.Nd[k] with
   | false=>rw [hb] at this;cases this
   | true =>
    rw [hb,cond_true] at this;refine ⟨rfl,fun hm=>?_⟩;rw [decide_eq_true hm] at this;cases this
  have M:r.Nu.length=p.Nb.length/\(r.Nu.zip p.Nb).any (Qde r)=false:=by
   by_cases H:r.Nu.length=p.Nb.length
   ·simp only [H,if_true] at h;refine ⟨H,?_⟩;cases hb:(r.Nu.zip p.Nb).any (Qde r) with
    | false=>rfl
    | true=>rw [hb] at h;cases h
   ·simp only [H,if_false] at h;cases h
  refine ⟨by omega,by omega,fun s hs=>?_,QDg fun k hk=>(G k hk).2,M.1,M.2⟩;obtain ⟨k,hk,rfl⟩:=Ec hs;exact (G k hk).1
theorem QXm {p:Ng} (h:(Qja p).2=0):PlantOk p:=by
 unfold Qja at h;by_cases M:p.Nd.length=0\/p.Na.length=0
 ·rw [if_pos M] at h;cases h
 rw [if_neg M] at h;by_cases O:8 < p.Nd.length\/3 < p.Na.length\/4 < p.Nb.length\/10 < p.Nk.length
 ·rw [if_pos O] at h;cases h
 rw [if_neg O] at h;cases H:Ye (JW p.Nd) p.Nd.length with
 | some i=>rw [H] at h;exact absurd h (Qah H).2.1
 | none =>
  rw [H] at h;cases I:Ye (JW p.Na) p.Na.length with
  | some i=>rw [I] at h;exact absurd h (Qah I).2.1
  | none =>
   rw [I] at h;cases G:Ye (Qar p) p.Nb.length with
   | some i=>rw [G] at h;exact absurd h (Qah G).2.1
   | none =>
    rw [G] at h;cases J:Ye (Qam p) p.Nk.length with
    | some i=>rw [J] at h;exact absurd h (Qah J).2.1
    | none =>
     have hr:∀ r∈p.Nk,rtX p r=0:=fun r hr=>by
      obtain ⟨k,hk,rfl⟩:=Ec hr;have:=Qie J k hk;rw [show Qam p k=rtE p k p.Nk[k] from Qai _ _ _ hk] at this;unfold rtE at this;by_cases hn:Qaj p.Nk[k].Name ((p.Nk.take k).map (·.Name))=0
      ·rwa [if_pos hn] at this
      ·rw [if_neg hn] at this;exact absurd this hn
     refine ⟨by omega,by omega,by omega,by omega,by omega,by omega,fun s hs=>?_,fun r h=>(Qgx (hr r h)).1,fun r h=>(Qgx (hr r h)).2.1,fun r h=>(Qgx (hr r h)).2.2.1,fun r h=>(Qgx (hr r h)).2.2.2.1,fun r h=>(Qgx (hr r h)).2.2.2.2.1,fun r h=>(Qgx (hr r h)).2.2.2.2.2⟩;obtain ⟨k,hk,rfl⟩:=Ec hs;have:=Qie G k hk;rw [show Qar p k=swE p k p.Nb[k] from Qai _ _ _ hk] at this;unfold swE at this;by_cases hn:Qaj p.Nb[k].Name ((p.Nb.take k).map (·.Name))=0
     ·rw [if_pos hn] at this;unfold swX at this;cases hb:Zb p p.Nb[k].Nm with
      | true=>rfl
      | false=>rw [hb] at this;cases this
     ·rw [if_neg hn] at this;exact absurd this hn
def Qfb (r:Np) (a b:Int):Bool:=(r.Nd.zip (r.Nd.drop 1)).any fun q=>decide (q.1=a)&&decide (q.2=b)
def Qeq (p:Ng) (sw:List Int) (a b:Int):Bool:=p.Nk.any fun r=>Qfb r a b&&JU p sw r [a,b]
structure StateOk (p:Ng) (x:Nf):Prop where
 sw:x.Nb.length=p.Nb.length
 tr:x.Na.length=p.Na.length
 pos:∀ n∈x.Nb,Z4 n=true
 cnt:Qeg x.Ni=true
 un:∀ t∈x.Na,(t.Nc=[]/\t.Nl=0)\/(1<=t.Nl/\t.Nl<=t.Nc.length)
 sc:∀ t∈x.Na,∀ s∈t.Nc,Zb p s=true
 nd:∀ t∈x.Na,t.Nc.Nodup
 dj:∀ i j (hi:i < x.Na.length) (hj:j < x.Na.length),i≠j->∀ s∈x.Na[i].Nc,s∉x.Na[j].Nc
 ld:∀ t∈x.Na,∀ k (hk:k+1 < t.Nc.length),Qeq p x.Nb t.Nc[k] t.Nc[k+1]=true
theorem QDf:∀ (n:Nat) (l:List Int),l.Nodup->(∀ s∈l,0<=s/\s < (n:Int))->l.length<=n
  | 0,l,_,h=>by
    cases l with
    | nil=>simp
    | cons x xs=>have:=h x (by simp);omega
  | n+1,l,hn,h=>by
    have G:=QDf n (l.filter fun s=>decide (s≠(n:Int))) (hn.filter _) fun s hs=>by
      rw [List.mem_filter] at hs;have:=h s hs.1;have:=hs.2;simp at this;omega
    have H:l.length<=(l.filter fun s=>decide (s≠(n:Int))).length+1:=by
      clear h G
      induction l with
      | nil=>simp
      | cons x xs ih =>
        rw [List.nodup_cons] at hn;by_cases hx:x=(n:Int)
        · have : xs.filter (fun s => decide (s ≠ (n : Int))) = xs := by
            rw [List.filter_eq_self];intro a ha;simp only [ne_eq,decide_not,En,decide_eq_false_iff_not];intro e;subst hx;subst e;exact hn.1 ha
          rw [List.filter_cons_of_neg (by simp [hx]),this];simp
        · rw [List.filter_cons_of_pos (by simp [hx])];have:=ih hn.2;simp only [List.length_cons];omega
    omega
theorem StateOk.len {p:Ng} {x:Nf} (h:StateOk p x) {t:Nh} (ht:t∈x.Na):t.Nc.length<=p.Nd.length :=
 QDf _ _ (h.nd t ht) fun s hs=>by
  have:=h.sc t ht s hs;unfold Zb at this;simp at this;omega
end Go.Gw

end
section
set_option maxRecDepth 4096
namespace Go.Gw
open Go
attribute [local irreducible] loop
end Go.Gw

end
section
set_option maxRecDepth 4096
namespace Go.Gw
open Go
attribute [local irreducible] loop
def chE (p:Ng) (x:Nf) (n:Nat) (t:Nh) (k:Nat) (s:Int):Int :=
 bif Zb p s then(bif decide (s∈t.Nc.take k)||(x.Na.take n).any (fun o=>decide (s∈o.Nc))then 17 else if k=0 then 0 else bif Qeq p x.Nb (t.Nc[k - 1]?.getD 0) s then 0 else 23)else 6
def Qaz (p:Ng) (x:Nf) (n:Nat) (t:Nh) (k:Nat):Int:=(t.Nc[k]?.map (chE p x n t k)).getD 0
def Qbh (t:Nh):Bool:=if t.Nc.length=0 then decide (t.Nl=0)else decide (1<=t.Nl)&&decide (t.Nl<=t.Nc.length)
def tsE (p:Ng) (x:Nf) (n:Nat) (t:Nh):Int:=bif Qbh t then(match Ye (Qaz p x n t) t.Nc.length with | some k=>Qaz p x n t k | none=>0)else 3
def Qfq (p:Ng) (x:Nf) (n:Nat):Int:=(x.Na[n]?.map (tsE p x n)).getD 0
def Qoz (p:Ng) (x:Nf):Int :=
 if x.Nb.length=p.Nb.length/\x.Na.length=p.Na.length then
  (bif x.Nb.all Z4&&Qeg x.Ni then(match Ye (Qfq p x) x.Na.length with | some k=>Qfq p x k | none=>0)else 2)else 10
theorem tsE_zero {p:Ng} {x:Nf} {n:Nat} {t:Nh}:tsE p x n t=0↔Qbh t=true/\∀ k (hk:k < t.Nc.length),chE p x n t k t.Nc[k]=0:=by
 unfold tsE;cases hu:Qbh t with
 | false=>simp
 | true =>
  simp only [cond_true,true_and];have hg:∀ k (hk:k < t.Nc.length),Qaz p x n t k=chE p x n t k t.Nc[k]:=fun k hk=>Qai _ _ _ hk
  cases hf:Ye (Qaz p x n t) t.Nc.length with
  | some k =>
   obtain ⟨G,H,_⟩:=Qah hf;constructor
   ·intro h;exact absurd h H
   ·intro h;exact absurd ((hg k G).trans (h k G)) H
  | none=>exact ⟨fun _ k hk=>(hg k hk).symm.trans (Qie hf k hk),fun _=>rfl⟩
theorem chE_zero {p:Ng} {x:Nf} {n:Nat} {t:Nh} {k:Nat} {s:Int}:chE p x n t k s=0↔Zb p s=true/\s∉t.Nc.take k/\(∀ o∈x.Na.take n,s∉o.Nc)/\(k≠0->Qeq p x.Nb (t.Nc[k - 1]?.getD 0) s=true):=by
  unfold chE;cases Zb p s with
  | false=>simp
  | true =>
    simp only [cond_true,true_and];by_cases H:s∈t.Nc.take k
    · simp [H]
    by_cases G:∀ o∈x.Na.take n,s∉o.Nc
    · have I : (x.Na.take n).any (fun o => decide (s ∈ o.Nc)) = false := by
        rw [Eo];intro o ho hm;exact G o ho (of_decide_eq_true hm)
      rw [I,decide_eq_false H];by_cases hk:k=0
      · simp [hk];exact G
      · simp only [Bool.or_false,cond_false,if_neg hk];cases Qeq p x.Nb (t.Nc[k - 1]?.getD 0) s with
        | false=>simp [hk]
        | true=>simp [H];exact G
    · have I : (x.Na.take n).any (fun o => decide (s ∈ o.Nc)) = true := by
        cases hb:(x.Na.take n).any (fun o=>decide (s∈o.Nc)) with
        | true=>rfl
        | false =>
          rw [Eo] at hb;exact absurd (fun o ho hm=>hb o ho (decide_eq_true hm)) G
      rw [I,Bool.or_true];simp [G]
theorem undB_iff {t:Nh}:Qbh t=true↔(t.Nc=[]/\t.Nl=0)\/(1<=t.Nl/\t.Nl<=t.Nc.length):=by
 unfold Qbh;by_cases h:t.Nc.length=0
 ·rw [if_pos h];have H:t.Nc=[]:=List.length_eq_zero_iff.1 h;simp only [decide_eq_true_eq];constructor
  ·intro G;exact .inl ⟨H,G⟩
  ·rintro (G | G)
   ·exact G.2
   ·omega
 ·rw [if_neg h];simp only [Ek,decide_eq_true_eq];constructor
  ·intro G;exact .inr G
  ·rintro (G | G)
   ·rw [G.1] at h;exact absurd rfl h
   ·exact G
theorem state_iff {p:Ng} {x:Nf}:Qoz p x=0↔StateOk p x:=by
  have hg:∀ k (hk:k < x.Na.length),Qfq p x k=tsE p x k x.Na[k]:=fun k hk=>Qai _ _ _ hk
  unfold Qoz;constructor
  · intro h;by_cases H:x.Nb.length=p.Nb.length/\x.Na.length=p.Na.length
    · rw [if_pos H] at h;cases G:x.Nb.all Z4&&Qeg x.Ni with
      | false=>rw [G] at h;cases h
      | true =>
        rw [G,cond_true] at h;rw [Ek,List.all_eq_true] at G;cases hf:Ye (Qfq p x) x.Na.length with
        | some k=>rw [hf] at h;exact absurd h (Qah hf).2.1
        | none =>
          have hz:∀ n (hn:n < x.Na.length),Qbh x.Na[n]=true/\∀ k (hk:k < x.Na[n].Nc.length),chE p x n x.Na[n] k x.Na[n].Nc[k]=0:=fun n hn=>tsE_zero.1 ((hg n hn).symm.trans (Qie hf n hn))
          refine ⟨H.1,H.2,G.1,G.2,fun t ht=>?_,fun t ht s hs=>?_,fun t ht=>?_,fun i j hi hj hij s hs hm=>?_,fun t ht k hk=>?_⟩
          · obtain ⟨n,hn,rfl⟩:=Ec ht;exact undB_iff.1 (hz n hn).1
          · obtain ⟨n,hn,rfl⟩:=Ec ht;obtain ⟨k,hk,rfl⟩:=Ec hs;exact (chE_zero.1 ((hz n hn).2 k hk)).1
          · obtain ⟨n,hn,rfl⟩:=Ec ht;exact QDg fun k hk=>(chE_zero.1 ((hz n hn).2 k hk)).2.1
          · rcases Nat.lt_or_gt_of_ne hij with I | I
            · obtain ⟨k,hk,rfl⟩:=Ec hm;exact (chE_zero.1 ((hz j hj).2 k hk)).2.2.1 _ (Ef.2 ⟨i,by omega,rfl⟩) hs
            · obtain ⟨k,hk,rfl⟩:=Ec hs;exact (chE_zero.1 ((hz i hi).2 k hk)).2.2.1 _ (Ef.2 ⟨j,by omega,rfl⟩) hm
          · obtain ⟨n,hn,rfl⟩:=Ec ht;have:=(chE_zero.1 ((hz n hn).2 (k+1) hk)).2.2.2 (by omega);rwa [Nat.add_sub_cancel,Eh (show k < x.Na[n].Nc.length by omega),Er] at this
    · rw [if_neg H] at h;cases h
  · intro h;rw [if_pos ⟨h.sw,h.tr⟩,show (x.Nb.all Z4&&Qeg x.Ni)=true by rw [Ek,List.all_eq_true];exact ⟨h.pos,h.cnt⟩,cond_true];rw [QNi fun n hn=>by
      rw [hg n hn,tsE_zero];have ht:=Ee hn;refine ⟨undB_iff.2 (h.un _ ht),fun k hk=>chE_zero.2 ⟨h.sc _ ht _ (Ee hk),QWm (h.nd _ ht) hk,fun o ho hm=>?_,fun J=>?_⟩⟩
      · obtain ⟨i,hi,rfl⟩:=Ef.1 ho;exact h.dj i n (by omega) hn (by omega) _ hm (Ee hk)
      · rw [Eh (show k - 1 < x.Na[n].Nc.length by omega),Er];have:=h.ld _ ht (k - 1) (by omega);simp only [show k - 1+1=k by omega] at this;exact this]
end Go.Gw

end
section
set_option maxRecDepth 4096
namespace Go.Gw
open Go
attribute [local irreducible] loop
/-! ### The beginning, copies -/
end Go.Gw

end
section
set_option maxRecDepth 4096
namespace Go.Gw
open Go
attribute [local irreducible] loop
def evE (p:Ng) (x:Nf) (e:Nj):Int:=if Qen p e=0 then Q2f p x e else Qen p e
def evs (p:Ng):Nf->Nat->List Nj->Nf⊕(Nat×Int)
 | x,_,[]=>.inl x
 | x,k,e::l=>if evE p x e=0 then evs p (Q2s p x e) (k+1) l else .inr (k,evE p x e)
end Go.Gw

end
section
set_option maxRecDepth 4096
namespace Go.Gw
open Go
attribute [local irreducible] loop
end Go.Gw

end
section
set_option maxRecDepth 4096
namespace Go.Gw
open Go
attribute [local irreducible] loop
end Go.Gw

end
section
set_option maxRecDepth 4096
namespace Go.Gw
open Go
attribute [local irreducible] loop
end Go.Gw

end
section
set_option maxRecDepth 4096
namespace Go.Gw
open Go
attribute [local irreducible] loop
theorem Qrx (l:List Int) (v:Int) (hl:l.length < 1000000):Qfz l v=some (decide (v∈l)):=by
 unfold Qfz;rw [Z0 l (fun x=>decide (x=v)) (fun _ _=>true),Ea]
 ·rcases J0 (p:=fun x=>decide (x=v)) (res:=fun _ _=>true) l 0 with ⟨G,H⟩ | ⟨j,x,G,H,I⟩
  ·rw [G,<-Qxd,H];rfl
  ·rw [G,<-Qxd,I];rfl
 ·intro k hk;unfold Qqq;rw [XT hk,Xo hk,Xk k (by omega)];rfl
 ·unfold Qqq;rw [XR];rfl
theorem QWr (l:List ByteArray) (s:ByteArray) (hl:l.length < 1000000):Qfd l s=some (Qmk (fun x=>decide (x=s)) l):=by
 unfold Qfd Qmk;rw [Z0 l (fun x=>decide (x=s)) (fun k _=>(k:Int)),Ea,Q2d]
 ·intro k hk;unfold Qjj;rw [XT hk,Xo hk,Xk k (by omega)];rfl
 ·unfold Qjj;rw [XR];rfl
theorem QCc (l:List ByteArray) (s:ByteArray):(l.any fun x=>decide (x=s))=Z3 l s:=by
 unfold Z3;congr 1;funext x;exact decide_eq_decide.2 eq_comm
theorem QCd {α:Type} (f:α->ByteArray) (l:List α) (s:ByteArray):(l.any fun x=>decide (f x=s))=Z3 (l.map f) s:=by
 rw [<-QCc,List.any_map];rfl
theorem QDw (l:List ByteArray) (hl:l.length < 1000):Qji l=some (match Ye (JW l) l.length with | some i=>((i:Int),JW l i) | none=>(0,0)):=by
 unfold Qji;have key:loop (Qjh l) 0=_:=Qgm (step:=Qjh l) (fun k=>(k:Int)) l.length (JW l) (fun i e=>((i:Int),e)) () (fun k hk _=>by
  have hs:JW l k=Qaj l[k] (l.take k):=Qai _ _ _ hk;rw [hs];unfold Qjh Qaj;rw [XT hk,cond_true,Xo hk,Ea,Qqn,Ea];cases Qgr l[k]
  ·rfl
  ·simp only [Ed,cond_false,Ea,cond_true];rw [Qyi (by omega),Ea,QWr _ _ (by simp;omega),Ea,QPf,QCc,Xk k (by omega)];cases Z3 (l.take k) l[k]<;>rfl) (fun _=>by
  unfold Qjh;rw [XR];rfl)
 rw [key,Ea];cases Ye (JW l) l.length<;>rfl
theorem Qvf {α ρ:Type} {step:Int->Option (Int⊕(ρ⊕Unit))} (xs:List α) (n:Nat) (hn:n<=xs.length) (p:α->Bool) (c:ρ)
  (hs:∀ k (hk:k < xs.length),k < n->step (k:Int)=(bif p xs[k] then some (.inr (.inl c))else some (.inl ((k+1:Nat):Int))))
  (he:step (n:Int)=some (.inr (.inr ()))):loop step 0=some (if (xs.take n).any p=true then .inl c else .inr ()):=by
 have hlen:(xs.take n).length=n:=by simp;omega
 rw [Z0 (xs.take n) p (fun _ _=>c) (fun k hk=>by
  rw [hlen] at hk;rw [hs k (by omega) hk];simp only [List.getElem_take]) (by rw [hlen];exact he)]
 rcases J0 (p:=p) (res:=fun _ _=>c) (xs.take n) 0 with ⟨G,H⟩ | ⟨j,x,G,H,I⟩
 ·rw [G,H];rfl
 ·rw [G,I];rfl
theorem QYf {p:Ng} (h:PlantS p) (k:Nat) (hk:k < p.Nb.length):Qom p k=some (Qar p k):=by
 have I:=h.sw;have J:=h.se;have hs:Qar p k=swE p k p.Nb[k]:=Qai _ _ _ hk;have G:loop (Qok p.Nb[k] (k:Int) p) 0=some (if (p.Nb.take k).any (fun o=>decide (o.Name=p.Nb[k].Name))=true then .inl 5 else .inr ()) :=
  Qvf p.Nb k (by omega) _ _ (fun j hj hjk=>by
   unfold Qok;rw [XT hjk,cond_true,Xo hj,Ea,Xk j (by omega)]) (by
   unfold Qok;rw [XR];rfl)
 have H:loop (Qol p.Nb[k] (k:Int) p) 0=some (if (p.Nb.take k).any (fun o=>decide (o.Nm=p.Nb[k].Nm))=true then .inl 26 else .inr ()) :=
  Qvf p.Nb k (by omega) _ _ (fun j hj hjk=>by
   unfold Qol;rw [XT hjk,cond_true,Xo hj,Ea,Xk j (by omega)]) (by
   unfold Qol;rw [XR];rfl)
 rw [hs];unfold Qom swE swX Qaj;rw [Xo hk,Ea,Qqn,Ea,G,H,QCd (fun o:Nv=>o.Name),show ZL p.Nb[k].Nm 0 (w64 ((p.Nd.length:Int) - 1))=some (Zb p p.Nb[k].Nm) by rw [Qbq,XS (by omega)];rfl];cases Qgr p.Nb[k].Name
 ·rfl
 ·cases Z3 ((p.Nb.take k).map (·.Name)) p.Nb[k].Name
  ·cases Zb p p.Nb[k].Nm
   ·rfl
   ·cases (p.Nb.take k).any (fun o=>decide (o.Nm=p.Nb[k].Nm))<;>rfl
  ·rfl
theorem Qua (n:Int):ZL n 0 1=some (Z4 n):=by
 rw [Qbq];congr 1;unfold Z4;rw [El];simp only [Ek,Em,decide_eq_true_eq];omega
theorem QYc {p:Ng} (h:PlantS p) (k:Nat) (hk:k < p.Nk.length):Qoj p k=some (Qam p k):=by
 have h1:=h.ro;have h2:=h.se;have h3:=h.sw;obtain ⟨_,hr,hn⟩:=h.rn _ (Ee hk);have hs:Qam p k=rtE p k p.Nk[k]:=Qai _ _ _ hk;have U:loop (Qog p.Nk[k] p (k:Int)) 0=some (if (p.Nk.take k).any (fun o=>decide (o.Name=p.Nk[k].Name))=true then .inl 5 else .inr ()) :=
  Qvf p.Nk k (by omega) _ _ (fun j hj hjk=>by
   unfold Qog;rw [XT hjk,cond_true,Xo hj,Ea,Xk j (by omega)]) (by
   unfold Qog;rw [XR];rfl)
 rw [hs];unfold Qoj rtE;rw [Xo hk,Ea,Qqn,Ea,U,QCd (fun o:Np=>o.Name)];generalize p.Nk[k]=r at hr hn ⊢;have V:loop (Qoh r p) 0=some (match Ye (Qbz p r) r.Nd.length with | some i=>.inl (Qbz p r i) | none=>.inr ()) :=
  Qgm (fun k=>(k:Int)) r.Nd.length (Qbz p r) (fun _ e=>e) () (fun k hk _=>by
   have hs:Qbz p r k=rsE p r k r.Nd[k]:=Qai _ _ _ hk;rw [hs];unfold Qoh rsE;rw [XT hk,cond_true,Xo hk,Ea,show ZL r.Nd[k] 0 (w64 ((p.Nd.length:Int) - 1))=some (Zb p r.Nd[k]) by rw [Qbq,XS (by omega)];rfl,Ea,Qyi (by omega),Ea,Ea,Qrx _ _ (by simp;omega),Ea,Xk k (by omega)];cases Zb p r.Nd[k]<;>cases decide (r.Nd[k]∈r.Nd.take k)<;>rfl) (fun _=>by
   unfold Qoh;rw [XR];rfl)
 have Y:r.Nu.length=p.Nb.length->loop (Qoi r p) 0=some (YP (Qde r) (fun _ _=>(2:Int)) 0 (r.Nu.zip p.Nb)):=fun he =>
  Z0 (r.Nu.zip p.Nb) _ _ (fun k hk=>by
   rw [QIb he] at hk;unfold Qoi;rw [XT hk,cond_true,Xo (show k < p.Nb.length by omega),Ea,Qrx _ _ (by omega),Ea,Xo hk,Xk k (by omega)];simp only [Ej,Qde,Ea,Qua];cases decide (p.Nb[k].Nm∈r.Nd)<;>rfl) (by
   rw [QIb he];unfold Qoi;rw [XR];rfl)
 unfold Qaj;cases Qgr r.Name
 ·rfl
 ·cases Z3 ((p.Nk.take k).map (·.Name)) r.Name
  ·simp only [Ed,cond_false,cond_true,Ea,Xt,if_true,Bool.false_eq_true,if_false];unfold rtX;by_cases I:r.Nd.length < 2
   ·rw [if_pos I,decide_eq_true (show (r.Nd.length:Int) < 2 by omega)];rfl
   rw [if_neg I,decide_eq_false (show ¬ (r.Nd.length:Int) < 2 by omega)];by_cases J:p.Nd.length < r.Nd.length
   ·rw [if_pos J,decide_eq_true (show (p.Nd.length:Int) < r.Nd.length by omega)];rfl
   rw [if_neg J,decide_eq_false (show ¬ (p.Nd.length:Int) < r.Nd.length by omega),V];simp only [cond_false,Ea];cases Ye (Qbz p r) r.Nd.length with
   | some i=>rfl
   | none =>
    simp only [Xt];by_cases G:r.Nu.length=p.Nb.length
    ·rw [if_pos G,decide_eq_true (show (r.Nu.length:Int)=p.Nb.length by omega),Ed,cond_false,Y G,Ea];rcases J0 (p:=Qde r) (res:=fun _ _=>(2:Int)) (r.Nu.zip p.Nb) 0 with ⟨H,M⟩ | ⟨j,x,H,M,O⟩
     ·rw [H,M];rfl
     ·rw [H,O];rfl
    ·rw [if_neg G,decide_eq_false (show ¬ (r.Nu.length:Int)=p.Nb.length by omega)];rfl
  ·rfl
theorem QXt {p:Ng} (h:PlantS p):Qnr p=some (Qja p):=by
  have I:=h.sw;have J:=h.ro;have M:loop (Qnp p) 0=some (match Ye (Qar p) p.Nb.length with | some i=>.inl (Nr.mk 3 i,Qar p i) | none=>.inr ()) :=
    Qgm (fun k=>(k:Int)) p.Nb.length (Qar p) (fun i e=>(Nr.mk 3 i,e)) () (fun k hk _=>by
      unfold Qnp;rw [XT hk,cond_true,QYf h k hk,Ea,Xk k (by omega)];by_cases G:Qar p k=0
      · rw [if_pos G,decide_eq_true G];rfl
      · rw [if_neg G,decide_eq_false G];rfl) (fun _=>by
      unfold Qnp;rw [XR];rfl)
  have O:loop (Qnq p) 0=some (match Ye (Qam p) p.Nk.length with | some i=>.inl (Nr.mk 4 i,Qam p i) | none=>.inr ()) :=
    Qgm (fun k=>(k:Int)) p.Nk.length (Qam p) (fun i e=>(Nr.mk 4 i,e)) () (fun k hk _=>by
      unfold Qnq;rw [XT hk,cond_true,QYc h k hk,Ea,Xk k (by omega)];by_cases G:Qam p k=0
      · rw [if_pos G,decide_eq_true G];rfl
      · rw [if_neg G,decide_eq_false G];rfl) (fun _=>by
      unfold Qnq;rw [XR];rfl)
  unfold Qnr Qja;by_cases G:p.Nd.length=0\/p.Na.length=0
  · rw [if_pos G, show (decide ((p.Nd.length : Int) = 0) || decide ((p.Na.length : Int) = 0)) = true by
      simp only [Em,decide_eq_true_eq];omega]
    rfl
  rw [if_neg G,decide_eq_false (show ¬ (p.Nd.length:Int)=0 by omega),decide_eq_false (show ¬ (p.Na.length:Int)=0 by omega)];simp only [Ev,cond_false];by_cases H:8 < p.Nd.length\/3 < p.Na.length\/4 < p.Nb.length\/10 < p.Nk.length
  · rw [if_pos H, show (((decide (8 < (p.Nd.length : Int)) || decide (3 < (p.Na.length : Int))) || decide (4 < (p.Nb.length : Int))) || decide (10 < (p.Nk.length : Int))) = true by
      simp only [Em,decide_eq_true_eq];omega]
    rfl
  rw [if_neg H, show (((decide (8 < (p.Nd.length : Int)) || decide (3 < (p.Na.length : Int))) || decide (4 < (p.Nb.length : Int))) || decide (10 < (p.Nk.length : Int))) = false by
      rw [decide_eq_false (by omega),decide_eq_false (by omega),decide_eq_false (by omega),decide_eq_false (by omega)];rfl]
  rw [cond_false,QDw _ h.se,QDw _ h.tr,M,O];have hz:∀ {f:Nat->Int} {n i:Nat},Ye f n=some i->f i≠0:=fun hf=>(Qah hf).2.1
  cases I:Ye (JW p.Nd) p.Nd.length with
  | some i=>simp [hz I]
  | none =>
    simp only [Ea,decide_true,Ed,cond_false];cases J:Ye (JW p.Na) p.Na.length with
    | some i=>simp [hz J]
    | none =>
      simp only [decide_true,Ed,cond_false];cases U:Ye (Qar p) p.Nb.length with
      | some i=>rfl
      | none =>
        simp only [Xt];cases V:Ye (Qam p) p.Nk.length with
        | some i=>rfl
        | none=>rfl
theorem QYb {p:Ng} (h:PlantS p):Qnz p=some (Qja p).2:=by
 unfold Qnz;rw [QXt h];rfl
/-! ### Copies -/
theorem Qyg (l:List Int) (h:l.length < 1000000):Qfy l=some l:=by
 unfold Qfy;rw [ZK (by simp;omega)];rfl
theorem Qke {α:Type} (l:List α) (k:Nat) (hk:k < l.length):l.take k++[l[k]]=l.take (k+1):=by
 have:=Qfi l id k hk;simp
theorem QKh {x:Nf} (h:StateS x):Qns x=some x:=by
 have H:=h.sw;have I:=h.tr;have hl:=Qsy (step:=Qjd x) (o:=x.Na) (fun k=>((k:Int),x.Na.take k)) x.Na.length (fun k hk=>by
  unfold Qjd;simp only [XT hk,cond_true,Xo hk,Ea];rw [Qyg _ (by have:=h.ch _ (Ee hk);omega),Ea,ZK (by simp;omega),Ea,Xk k (by omega)];show some (Sum.inl (_,x.Na.take k++[x.Na[k]]))=_;rw [Qke _ _ hk]) (by
  unfold Qjd;simp only [XR,Eq_];rfl)
 have G:loop (Qjd x) (0,([]:List Nh))=some x.Na:=hl;unfold Qns;rw [Qyg _ (by omega),Ea,Ea];simp only;rw [G];rfl
/-! ### Equal ones -/
theorem Qzv (a b:List Int) (ha:a.length < 1000000):Qhs a b=some (decide (a=b)):=by
 unfold Qhs;by_cases hl:a.length=b.length
 ·rw [decide_eq_true (by omega),Ed,cond_false,Z0 (a.zip b) (fun x=>!decide (x.1=x.2)) (fun _ _=>false),Ea,Qro a b hl]
  ·intro k hk;rw [Qqb hl] at hk;unfold Qqr;rw [XT hk,cond_true,Xo hk,Ea,Xo (show k < b.length by omega),Ea,Xk k (by omega)];simp only [Ej]
  ·rw [Qqb hl];unfold Qqr;rw [XR];rfl
 ·rw [decide_eq_false (by omega)];simp only [Bool.not_false,cond_true];rw [decide_eq_false];intro e;exact hl (by rw [e])
theorem QFd {x:Nf} (h:StateS x) (y:Nf):Qgw x y=some (decide (x=y)):=by
  have O:=h.sw;have U:=h.tr;cases x with
  | mk sw tr c =>
  cases y with
  | mk H G I =>
  simp only at O U;unfold Qgw;simp only [Qzv sw H (by omega),Ea,Nf.mk.injEq];by_cases e1:sw=H
  · by_cases e2:c=I
    · by_cases hl:tr.length=G.length
      · rw [decide_eq_true e1,decide_eq_true e2,decide_eq_true (show (tr.length:Int)=G.length by omega)];simp only [Ed,Ev,cond_false];have key:loop (Qoa ⟨sw,tr,c⟩ ⟨H,G,I⟩) 0=_:=Z0 (tr.zip G) (fun x=>!decide (x.1=x.2)) (fun _ _=>false) (fun k hk=>by
          rw [Qqb hl] at hk;unfold Qoa;simp only [XT hk,cond_true,Xo hk,Ea,Xo (show k < G.length by omega)];rw [Qzv _ _ (by have:(tr[k]).Nc.length < 1000:=h.ch _ (Ee hk);omega),Ea,Xk k (by omega)];simp only [Ej];cases V:tr[k] with
          | mk ch un =>
          cases Y:G[k]'(by omega) with
          | mk J M =>
          simp only [Nh.mk.injEq];by_cases e3:ch=J
          · by_cases e4:un=M
            · simp [e3,e4]
            · simp [e3,e4]
          · simp [e3]) (by
          rw [Qqb hl];unfold Qoa;simp only [XR];rfl)
        rw [key,Ea,Qro tr G hl];simp [e1,e2]
      · rw [decide_eq_false (show ¬ (tr.length:Int)=G.length by omega)];have:tr≠G:=fun e=>hl (by rw [e])
        simp [this]
    · simp [e2]
  · simp [e1]
/-! ### The limits -/
theorem QNj (p:Ng):Qij p=some true/\PlantS p/\(p.Nd.length<=4\/8 < p.Nd.length)\/Qij p=some false:=by
 unfold Qij;cases hb:(((((decide (4 < (p.Nd.length:Int))&&decide ((p.Nd.length:Int)<=8))||decide (10 < (p.Nd.length:Int)))||decide (5 < (p.Na.length:Int)))||decide (6 < (p.Nb.length:Int)))||decide (12 < (p.Nk.length:Int))) with
 | true=>exact .inr rfl
 | false =>
  rw [cond_false];simp only [Bool.or_eq_false_iff,Es,decide_eq_false_iff_not] at hb;have V:p.Nd.length < 1000:=by omega
  have Y:p.Na.length < 1000:=by omega
  have h3:p.Nb.length < 1000:=by omega
  have h4:p.Nk.length < 1000:=by omega
  have l0:loop (Qmm p) 0=some (YP (fun s:ByteArray=>decide (20 < (s.size:Int))) (fun _ _=>false) 0 p.Nd):=Z0 p.Nd _ _ (fun k hk=>by
   unfold Qmm;rw [XT hk,cond_true,Xo hk,Ea,Xk k (by omega)]) (by unfold Qmm;rw [XR];rfl)
  have l1:loop (Qmn p) 0=some (YP (fun s:ByteArray=>decide (20 < (s.size:Int))) (fun _ _=>false) 0 p.Na):=Z0 p.Na _ _ (fun k hk=>by
   unfold Qmn;rw [XT hk,cond_true,Xo hk,Ea,Xk k (by omega)]) (by unfold Qmn;rw [XR];rfl)
  have l2:loop (Qmo p) 0=some (YP (fun s:Nv=>decide (20 < (s.Name.size:Int))) (fun _ _=>false) 0 p.Nb):=Z0 p.Nb _ _ (fun k hk=>by
   unfold Qmo;rw [XT hk,cond_true,Xo hk,Ea,Xk k (by omega)]) (by unfold Qmo;rw [XR];rfl)
  have l3:loop (Qmp p) 0=some (YP (fun r:Np=>decide (20 < (r.Name.size:Int))||(decide (10 < (r.Nd.length:Int))||decide (6 < (r.Nu.length:Int)))) (fun _ _=>false) 0 p.Nk):=Z0 p.Nk _ _ (fun k hk=>by
   unfold Qmp;simp only [XT hk,cond_true,Xo hk,Ea,Xk k (show k < 4611686018427387904 by omega)];cases decide (20 < (p.Nk[k].Name.size:Int))<;>cases decide (10 < (p.Nk[k].Nd.length:Int))<;>cases decide (6 < (p.Nk[k].Nu.length:Int))<;>rfl) (by unfold Qmp;rw [XR];rfl)
  rw [l0,l1,l2,l3];simp only [Ea];rcases J0 (p:=fun s:ByteArray=>decide (20 < (s.size:Int))) (res:=fun _ _=>false) p.Nd 0 with ⟨G,H⟩ | ⟨j,x,G,H,k3⟩
  ·rw [G];rcases J0 (p:=fun s:ByteArray=>decide (20 < (s.size:Int))) (res:=fun _ _=>false) p.Na 0 with ⟨I,J⟩ | ⟨j,x,I,J,m3⟩
   ·rw [I];rcases J0 (p:=fun s:Nv=>decide (20 < (s.Name.size:Int))) (res:=fun _ _=>false) p.Nb 0 with ⟨M,n2⟩ | ⟨j,x,M,n2,n3⟩
    ·rw [M];rcases J0 (p:=fun r:Np=>decide (20 < (r.Name.size:Int))||(decide (10 < (r.Nd.length:Int))||decide (6 < (r.Nu.length:Int)))) (res:=fun _ _=>false) p.Nk 0 with ⟨O,U⟩ | ⟨j,x,O,U,o3⟩
     ·rw [O];rw [Eo] at H J n2 U;refine .inl ⟨rfl,⟨V,Y,h3,h4,fun s hs=>?_,fun s hs=>?_,fun s hs=>?_,fun r hr=>?_⟩,by omega⟩
      ·have:=H s hs;simp at this;omega
      ·have:=J s hs;simp at this;omega
      ·have:=n2 s hs;simp at this;omega
      ·have:=U r hr;simp at this;omega
     ·rw [O];exact .inr rfl
    ·rw [M];exact .inr rfl
   ·rw [I];exact .inr rfl
  ·rw [G];exact .inr rfl
end Go.Gw

end
section
set_option maxRecDepth 4096
namespace Go.Gw
open Go
attribute [local irreducible] loop
theorem QDx {p:Ng} (h:PlantS p) (n:Int):Qje p n=some (bif Zb p n then 0 else 6):=by
 have:=h.se;unfold Qje;rw [Qbq,XS (by omega),Ea];show (bif !(Zb p n)then _ else _)=_;cases Zb p n<;>rfl
theorem QYj {p:Ng} (h:PlantS p) (n:Int):Qod p n=some (bif Qfp p n then 0 else 6):=by
 have:=h.tr;unfold Qod;rw [Qbq,XS (by omega),Ea];show (bif !(Qfp p n)then _ else _)=_;cases Qfp p n<;>rfl
theorem QXu {p:Ng} (h:PlantS p) (e:Nj):Qnt p e=some (Qen p e):=by
  have G:=h.sw;have H:=h.ro;unfold Qnt Qen;rw [Qbq,Ea];by_cases hk:0<=e.Kind/\e.Kind<=6
  · rw [if_neg (by omega),show (decide (0<=e.Kind)&&decide (e.Kind<=6))=true by simp [hk.1,hk.2]];simp only [Ed,cond_false];by_cases H:e.Kind=2
    · rw [if_pos H,decide_eq_true H,cond_true,Qbq,XS (by omega),Ea,Qua];show (bif !(Qkb p e.A)then _ else _)=_;cases Qkb p e.A<;>cases Z4 e.B<;>rfl
    · rw [if_neg H,decide_eq_false H,cond_false,QYj h,Ea,QDx h,Ea,Qbq,XS (by omega),Ea];cases Qfp p e.A
      · rfl
      simp only [cond_true,decide_true,Ed,cond_false];by_cases I:e.Kind=0
      · rw [if_pos I,decide_eq_true I];rfl
      · rw [if_neg I,decide_eq_false I,cond_false];by_cases G:e.Kind=1
        · rw [if_pos G,decide_eq_true G,cond_true];show (bif !(Qjo p e.B)then _ else _)=_;cases Qjo p e.B<;>rfl
        · rw [if_neg G,decide_eq_false G,cond_false];by_cases J:e.B=0
          · rw [if_pos J,decide_eq_true J];rfl
          · rw [if_neg J,decide_eq_false J];rfl
  · rw [if_pos hk, show (decide (0 <= e.Kind) && decide (e.Kind <= 6)) = false by
      rw [Es,decide_eq_false_iff_not,decide_eq_false_iff_not];omega]
    rfl
/-! ### Which section leads to which -/
theorem Qzb {α:Type} (g:α->Bool):∀ (l:List α) (k:Nat) (b:Bool),fld (fun (_:Nat) (a:Bool) (x:α)=>a&&!(g x)) k b l=(b&&!(l.any g))
 | [],k,b=>by simp [fld]
 | x::l,k,b=>by
  unfold fld;rw [Qzb g l];simp only [List.any_cons];cases b<;>cases g x<;>simp
theorem QXz {p:Ng} {x:Nf} {r:Np} {a b:Int} (G:r.Nu.length=p.Nb.length) (H:x.Nb.length=p.Nb.length) (I:p.Nb.length < 1000):loop (Qjg r p x b a) (true,0)=some (JU p x.Nb r [a,b]):=by
 have hlen:(p.Nb.zip (r.Nu.zip x.Nb)).length=p.Nb.length:=by simp [G,H]
 have:=(QSe (step:=Qjg r p x b a) (p.Nb.zip (r.Nu.zip x.Nb)) (fun _ (c:Bool) q=>c&&!(Qsk [a,b] q)) (fun c k=>(c,(k:Int))) (fun c=>c) (fun _ _=>True) true trivial (fun k hk c _=>by
  rw [hlen] at hk;refine ⟨?_,trivial⟩;unfold Qjg;simp only [XT hk,cond_true,Xo hk,Ea,Xk k (show k < 4611686018427387904 by omega),Xo (show k < r.Nu.length by omega),Xo (show k < x.Nb.length by omega),Ej,Qsk];generalize hs:p.Nb[k].Nm=s;by_cases ha:s=a
  ·subst ha;cases c
   ·simp
   ·by_cases hn:x.Nb[k]=r.Nu[k]
    ·simp [hn]
    ·simp [hn,Ne.symm hn]
  ·by_cases hb:s=b
   ·subst hb;cases c
    ·simp [ha,hs]
    ·by_cases hn:x.Nb[k]=r.Nu[k]
     ·simp [hn,ha,hs]
     ·simp [hn,Ne.symm hn,ha,hs]
   ·cases c<;>simp [ha,hb,hs]) (fun c _=>by
  rw [hlen];unfold Qjg;simp only [XR];rfl)).1
 rw [Qzb,Bool.true_and] at this;exact this
theorem QXy {p:Ng} (hp:PlantOk p) {x:Nf} (O:x.Nb.length=p.Nb.length) (a b:Int):Qof p x a b=some (Qeq p x.Nb a b):=by
 have ab:=hp.w4;have U:=hp.r10;have aa:=hp.s8;unfold Qof Qeq;have inner:∀ r∈p.Nk,loop (Qoe r p x b a) 0=some (if (Qfb r a b&&JU p x.Nb r [a,b])=true then .inl (.inr (.inl true))else .inr ()):=fun r hr=>by
  have V:=hp.r2 r hr;have Y:=hp.r8 r hr;have hlen:(r.Nd.zip (r.Nd.drop 1)).length=r.Nd.length - 1:=by simp
  rw [Z0 (r.Nd.zip (r.Nd.drop 1)) (fun q=>(decide (q.1=a)&&decide (q.2=b))&&JU p x.Nb r [a,b]) (fun _ _=>Sum.inr (.inl true)) (fun k hk=>by
   rw [hlen] at hk;unfold Qoe;rw [Xk k (by omega),XT (show k+1 < r.Nd.length by omega),cond_true,Xo (show k < r.Nd.length by omega),Ea,Xo (show k+1 < r.Nd.length by omega),QXz (hp.rn r hr) O (by omega)];simp only [Ej,List.getElem_drop,Ea];have e:r.Nd[1+k]'(by omega)=r.Nd[k+1]'(by omega) := by congr 1;omega
   rw [e];generalize JU p x.Nb r [a,b]=lb;by_cases I:r.Nd[k]=a
   ·by_cases M:r.Nd[k+1]=b
    ·cases lb<;>simp [I,M]
    ·cases lb<;>simp [I,M]
   ·cases lb<;>simp [I]) (by
   rw [hlen];unfold Qoe;rw [Xk _ (by omega),show r.Nd.length - 1+1=r.Nd.length by omega,XR];rfl)]
  have ea:(r.Nd.zip (r.Nd.drop 1)).any (fun q=>(decide (q.1=a)&&decide (q.2=b))&&JU p x.Nb r [a,b])=(Qfb r a b&&JU p x.Nb r [a,b]):=by
   unfold Qfb;cases JU p x.Nb r [a,b]<;>simp
  rcases J0 (p:=fun q:Int×Int=>(decide (q.1=a)&&decide (q.2=b))&&JU p x.Nb r [a,b]) (res:=fun _ _=>(Sum.inr (.inl true):Int⊕(Bool⊕Unit))) (r.Nd.zip (r.Nd.drop 1)) 0 with ⟨G,H⟩ | ⟨j,y,G,H,J⟩
  ·rw [G,<-ea,H];rfl
  ·rw [G,<-ea,J];rfl
 rw [Z0 p.Nk (fun r=>Qfb r a b&&JU p x.Nb r [a,b]) (fun _ _=>true),Ea]
 ·rcases J0 (p:=fun r=>Qfb r a b&&JU p x.Nb r [a,b]) (res:=fun _ _=>true) p.Nk 0 with ⟨G,H⟩ | ⟨j,y,G,H,J⟩
  ·rw [G,H];rfl
  ·rw [G,J];rfl
 ·intro k hk;unfold Quk;rw [XT hk,cond_true,Xo hk,Ea,inner _ (Ee hk),Xk k (by omega)];cases (Qfb p.Nk[k] a b&&JU p x.Nb p.Nk[k] [a,b])<;>rfl
 ·unfold Quk;rw [XR];rfl
/-! ### Which states are right -/
theorem QSp {x:Nf} {n:Nat} {s:Int}:decide (s∈(x.Na.take n).flatMap (·.Nc))=(x.Na.take n).any fun o=>decide (s∈o.Nc):=by
 rw [El,decide_eq_true_eq,List.any_eq_true,List.mem_flatMap];simp only [decide_eq_true_eq]
theorem QDv {p:Ng} (hS:PlantS p) (hp:PlantOk p) {x:Nf} (h:StateS x) (H:x.Nb.length=p.Nb.length) (n:Nat) (hn:n < x.Na.length) (hf:((x.Na.take n).flatMap (·.Nc)).length<=1000 * n) :
    loop (Qjf x.Na[n] p x) ((x.Na.take n).flatMap (·.Nc),0)=some (match Ye (Qaz p x n x.Na[n]) x.Na[n].Nc.length with | some k=>.inl (.inr (.inl (Qaz p x n x.Na[n] k))) | none=>.inr ((x.Na.take (n+1)).flatMap (·.Nc))):=by
  have hc:=h.ch _ (Ee hn);have hl:=h.tr;have e1:(x.Na.take (n+1)).flatMap (·.Nc)=(x.Na.take n).flatMap (·.Nc)++x.Na[n].Nc:=by
    rw [<-Qke _ _ hn,Eu];simp
  rw [e1];generalize hF:(x.Na.take n).flatMap (·.Nc)=F at hf ⊢;have hm:∀ s,decide (s∈F)=(x.Na.take n).any fun o=>decide (s∈o.Nc):=fun s=>by rw [<-hF];exact QSp
  have:=Qgm (step:=Qjf x.Na[n] p x) (fun k=>(F++x.Na[n].Nc.take k,(k:Int))) x.Na[n].Nc.length (Qaz p x n x.Na[n]) (fun _ e=>(.inr (.inl e):(List Int×Int)⊕(Int⊕Unit))) (F++x.Na[n].Nc) (fun k hk _=>by
    have hs:Qaz p x n x.Na[n] k=chE p x n x.Na[n] k x.Na[n].Nc[k]:=Qai _ _ _ hk;rw [hs];unfold Qjf chE;simp only [XT hk,cond_true,Xo hk,Ea,QDx hS];rw [Qrx _ _ (by simp;omega),Ea,ZK (by simp;omega),Ea,Xk k (by omega),List.append_assoc,Qke _ _ hk,
      show decide (x.Na[n].Nc[k]∈F++x.Na[n].Nc.take k)=(decide (x.Na[n].Nc[k]∈x.Na[n].Nc.take k)||(x.Na.take n).any fun o=>decide (x.Na[n].Nc[k]∈o.Nc)) by
        rw [<-hm,El];simp [or_comm]]
    cases Zb p x.Na[n].Nc[k]
    · rfl
    cases (decide (x.Na[n].Nc[k]∈x.Na[n].Nc.take k)||(x.Na.take n).any fun o=>decide (x.Na[n].Nc[k]∈o.Nc))
    · simp only [cond_true,decide_true,Ed,cond_false];by_cases G:k=0
      · subst G;rfl
      · rw [decide_eq_true (show (0:Int) < (k:Int) by omega),show w64 ((k:Int) - 1)=((k - 1:Nat):Int) by rw [XS (by omega)];omega];simp only [cond_true,Xo (show k - 1 < x.Na[n].Nc.length by omega),Ea,QXy hp H,if_neg G,Eh (show k - 1 < x.Na[n].Nc.length by omega),Er];cases Qeq p x.Nb x.Na[n].Nc[k - 1] x.Na[n].Nc[k]<;>rfl
    · rfl) (fun _=>by
    unfold Qjf;simp only [XR,Eq_];rfl)
  simp only [List.take_zero,List.append_nil,Int.natCast_zero] at this;exact this
theorem QYd {p:Ng} (hS:PlantS p) (hp:PlantOk p) {x:Nf} (h:StateS x):Qoc p x=some (Qoz p x):=by
  have Y:=h.sw;have h2:=h.tr;have V:=hp.w4;have U:=hp.t3;unfold Qoc Qoz;by_cases hl:x.Nb.length=p.Nb.length/\x.Na.length=p.Na.length
  · rw [if_pos hl,decide_eq_true (show (x.Nb.length:Int)=p.Nb.length by omega),decide_eq_true (show (x.Na.length:Int)=p.Na.length by omega)];simp only [Ed,Ev,cond_false];rw [Z0 x.Nb (fun n=>!(Z4 n)) (fun _ _=>2) (fun k hk=>by
      unfold Qui;rw [XT hk,cond_true,Xo hk,Ea,Qua,Ea,Xk k (by omega)]) (by
      unfold Qui;rw [XR];rfl),Ea]
    have ea:x.Nb.any (fun n=>!(Z4 n))=!(x.Nb.all Z4):=by
      rw [List.all_eq_not_any_not,Bool.not_not]
    rcases J0 (p:=fun n=>!(Z4 n)) (res:=fun _ _=>(2:Int)) x.Nb 0 with ⟨J,M⟩ | ⟨j,y,J,M,O⟩
    · rw [J];rw [ea,Bool.not_eq_false'] at M;rw [M,Bool.true_and];simp only [Xt];rw [show Quj x.Ni=some (Qeg x.Ni) from rfl,Ea];cases Qeg x.Ni
      · rfl
      · simp only [Ed,cond_false,cond_true];have:=Qgm (step:=Qob p x) (fun n=>((x.Na.take n).flatMap (·.Nc),(n:Int))) x.Na.length (Qfq p x) (fun _ e=>e) () (fun n hn _=>by
          have hs:Qfq p x n=tsE p x n x.Na[n]:=Qai _ _ _ hn;have hf:∀ m,m<=x.Na.length->((x.Na.take m).flatMap (·.Nc)).length<=1000 * m:=fun m=>by
            induction m with
            | zero=>intro _;simp
            | succ m ih =>
              intro hm;rw [<-Qke _ _ (show m < x.Na.length by omega),Eu,List.length_append];have:=ih (by omega);have:=h.ch _ (Ee (show m < x.Na.length by omega));rw [show ([x.Na[m]]:List Nh).flatMap (·.Nc)=x.Na[m].Nc by simp];omega
          have hc:=h.ch _ (Ee hn);rw [hs];unfold Qob tsE;simp only [XT hn,cond_true,Xo hn,Ea,Qbq];have eu:(((decide ((x.Na[n].Nc.length:Int)=0))&&(!decide (x.Na[n].Nl=0)))||((decide (0 < (x.Na[n].Nc.length:Int)))&&(!(decide (1<=x.Na[n].Nl)&&decide (x.Na[n].Nl<=(x.Na[n].Nc.length:Int))))))=!(Qbh x.Na[n]):=by
            unfold Qbh;by_cases I:x.Na[n].Nc.length=0
            · rw [if_pos I,decide_eq_true (show (x.Na[n].Nc.length:Int)=0 by omega),decide_eq_false (show ¬ (0:Int) < x.Na[n].Nc.length by omega)];simp
            · rw [if_neg I,decide_eq_false (show ¬ (x.Na[n].Nc.length:Int)=0 by omega),decide_eq_true (show (0:Int) < x.Na[n].Nc.length by omega)];simp
          by_cases I:x.Na[n].Nc.length=0
          · have G:decide ((x.Na[n].Nc.length:Int)=0)=true:=decide_eq_true (by omega);have H:decide ((0:Int) < x.Na[n].Nc.length)=false:=decide_eq_false (by omega);rw [G,H] at eu ⊢;simp only [Bool.and_false,cond_false,Ea,Bool.false_and,Bool.or_false] at eu ⊢;rw [eu];cases Qbh x.Na[n]
            · rfl
            · simp only [Ed,cond_false,cond_true];rw [QDv hS hp h hl.1 n hn (hf n (by omega)),Ea];cases hfe:Ye (Qaz p x n x.Na[n]) x.Na[n].Nc.length with
              | some k=>rw [if_neg (Qah hfe).2.1];rfl
              | none=>rw [if_pos rfl];simp only [Xt];rw [Xk n (by omega)]
          · have G:decide ((x.Na[n].Nc.length:Int)=0)=false:=decide_eq_false (by omega);have H:decide ((0:Int) < x.Na[n].Nc.length)=true:=decide_eq_true (by omega);rw [G,H] at eu ⊢;simp only [Bool.false_and,Bool.not_false,Bool.and_true,cond_true,Ea] at eu ⊢;rw [eu];cases Qbh x.Na[n]
            · rfl
            · simp only [Ed,cond_false,cond_true];rw [QDv hS hp h hl.1 n hn (hf n (by omega)),Ea];cases hfe:Ye (Qaz p x n x.Na[n]) x.Na[n].Nc.length with
              | some k=>rw [if_neg (Qah hfe).2.1];rfl
              | none=>rw [if_pos rfl];simp only [Xt];rw [Xk n (by omega)]) (fun _=>by
          unfold Qob;simp only [XR];rfl)
        simp only [List.take_zero,List.flatMap_nil,Int.natCast_zero] at this;rw [this,Ea];cases Ye (Qfq p x) x.Na.length<;>rfl
    · rw [J];rw [ea,En] at O;rw [O];rfl
  · rw [if_neg hl, show (!decide ((x.Nb.length : Int) = p.Nb.length) || !decide ((x.Na.length : Int) = p.Na.length)) = true by
      simp only [Em,En,decide_eq_false_iff_not];omega]
    rfl
end Go.Gw

end
section
set_option maxRecDepth 4096
namespace Go.Gw
open Go
attribute [local irreducible] loop
theorem Qzl {α:Type} {xs:List α} (h:0 < xs.length):idx xs 0=some xs[0]:=Xo (k:=0) h
end Go.Gw

end
section
set_option maxRecDepth 4096
namespace Go.Gw
open Go
attribute [local irreducible] loop
end Go.Gw

end
section
set_option maxRecDepth 4096
namespace Go.Gw
open Go
attribute [local irreducible] loop
end Go.Gw

end
