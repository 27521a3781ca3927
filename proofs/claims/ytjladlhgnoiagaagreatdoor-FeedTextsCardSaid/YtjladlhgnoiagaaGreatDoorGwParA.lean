/- Laws of the walk. Condition: each theorem says its own. -/
import Derived.Test.YtjladlhgnoiagaaGreatDoorGwFnZ
import Derived.Test.YtjladlhgnoiagaaGreatDoorGwFacts2
import Derived.Test.YtjladlhgnoiagaaGreatDoorGwCj21
import Derived.Test.YtjladlhgnoiagaaGreatDoorGwPl
set_option linter.unusedVariables false
set_option linter.unusedSimpArgs false
set_option linter.unusedSectionVars false
open Option renaming bind→Ea,bind_some→Ed
open Go.Gw.Elems renaming cons→Eb,nil→Ee
open Go.Gw.Stepp renaming ext→Ec,swap→Ei
open Go.Gw.Runs renaming call→Ef
open Go.Gw.At renaming drop→Eg
open Go.Gw.LtL renaming nil→Eh
section
set_option maxRecDepth 100000
set_option maxHeartbeats 8000000
set_option linter.unusedVariables false
set_option linter.unusedSectionVars false
namespace Go.Gw
open Go Go.Conc Go.Proofs
theorem zi3:ZI Tryz.prog 3 [.int .i64 0]:=Y0 (by kernel_rfl)
theorem QKl:ZI Tryz.prog 98 [.chan none]:=Y0 (by kernel_rfl)
theorem QHq:Xo Tryz.prog 98 1:=Ym (by kernel_rfl)
theorem Qqw:YW Tryz.prog 98:=⟨_,Tryz.underlying98,trivial⟩
attribute [local irreducible] T0 TS TT TP TX TZ Eff Stp WC Quiet gd
def ZC (L:List Value) (r:Nn):Value->World->Prop:=fun v w=>∃ cs0:List Value,v=.agg cs0.toArray/\Rep.rd L w cs0 r
theorem Qst {Z:Nat->Prop} {c:Nat} {L:List Value} {w:World} (hL:LtL L w) {net:Nm} {t:Na} {at_:Int} {b5 b9 b10 b11:Nat} {v1 v3 v5 v:Value}
    (hn:Rep.rd L w [v1,v3,v5] net) (h5:RowAt w b5 [v1,v3,v5]) (ht:SlRd L w v t.Nv) (h9:RowAt w b9 [.string t.Name,.int .i64 t.Nc,.int .i64 t.Nd,v]) (h10:RowAt w b10 [.chan (some c)]) (h11:RowAt w b11 [.int .i64 at_])
    {fl:Nat} {r:Nn} (hs:JT fl net [Ng.mk t at_] (w64 (at_ - t.Nc))=some r) :
    Wlk (Jw Tryz.prog Z) (fun g w=>∃ k,JJ Tryz.prog c (ZC L r) k g w) (born Tryz.prog { target:=.fn (.func 36) #[.pointer (some ⟨b10,0,none⟩),.pointer (some ⟨b5,0,none⟩),.pointer (some ⟨b9,0,none⟩),.pointer (some ⟨b11,0,none⟩)],args:=#[] }) w:=by
  letI:JD Tryz.prog:=⟨Jw Tryz.prog Z⟩
  refine .ctl rfl (fun W=>QHd Tryz.func36 (by kernel_rfl) rfl) ?_;have e:=Qey [.pointer (some ⟨b10,0,none⟩),.pointer (some ⟨b5,0,none⟩),.pointer (some ⟨b9,0,none⟩),.pointer (some ⟨b11,0,none⟩)] 15 (by simp);refine Eq.subst (motive:=fun a=>Wlk (Jw Tryz.prog Z) (fun g w=>∃ k,JJ Tryz.prog c (ZC L r) k g w) (G ((baseD 36).at a [.code _]) [ZE Tryz.prog]) w) e.symm ?_;refine QJi (n:=15) (j:=11) (fun w0 w'=>Ext w0 w') XL [(0,false),(1,false),(2,false),(3,false),(4,false),(6,false),(7,false),(8,false),(9,false),(5,true),(10,true)] (by kernel_rfl) (fun w=>Chg.refl _ _) (by simp [baseD])
    (Kt:=fun ρ' w'=>ρ' 4=.chan (some c)/\ZC L r (ρ' 14) w') ?_ (fun ρ' w' ⟨k1,cs0,k2,k3⟩=>.stop fun w1 r1=>⟨4,QFw Tryz.func36 rfl rfl rfl rfl (by kernel_rfl) rfl (by rw [Js];exact k1) (by rw [Js];exact k2) fun w2 r2=>⟨cs0,rfl,Rep.step (Ec (r1.trans r2).ext) k3⟩⟩)
  have e0:Ext w { w with drawn:=w.drawn+1 }:=Ext.drew w;generalize ({ w with drawn:=w.drawn+1 }:World)=w0 at e0 ⊢;refine Jr (v:=.chan (some c)) rfl rfl (fun w' hS=>Qw Qqw rfl (h10.at.ext (e0.trans hS))) ?_;refine Jr (v:=.agg (List.toArray [v1,v3,v5])) rfl rfl (fun w' hS=>XM (cs:=[v1,v3,v5]) YV rfl (h5.at.ext (e0.trans hS))) ?_;refine Jr (v:=.agg (List.toArray [.string t.Name,.int .i64 t.Nc,.int .i64 t.Nd,v])) rfl rfl (fun w' hS=>XM (cs:=[.string t.Name,.int .i64 t.Nc,.int .i64 t.Nd,v]) Jt rfl (h9.at.ext (e0.trans hS))) ?_;refine Jr (v:=.int .i64 at_) rfl rfl (fun w' hS=>Qw QS rfl (h11.at.ext (e0.trans hS))) ?_;refine Jr (v:=.agg (List.toArray [.string t.Name,.int .i64 t.Nc,.int .i64 t.Nd,v,.int .i64 at_])) rfl rfl (fun w' hS=>Xq (cells:=[.string t.Name,.int .i64 t.Nc,.int .i64 t.Nd,v,.int .i64 at_]) Qhp (Qz rfl rfl (Qz rfl rfl QP)) rfl) ?_;refine Jr (v:=.int .i64 at_) rfl rfl (fun w' hS=>Qw QS rfl (h11.at.ext (e0.trans hS))) ?_;refine Jr (v:=.pointer (some ⟨b9,1,none⟩)) rfl rfl (fun w' hS=>QB 1 Tryz.underlying91 rfl rfl ⟨0,QJ⟩ rfl rfl) ?_;refine Jr (v:=.int .i64 t.Nc) rfl rfl (fun w' hS=>Qw QS rfl (Eg (h9.at.ext (e0.trans hS)) 1)) ?_;refine Jr (v:=.int .i64 (w64 (at_ - t.Nc))) rfl rfl (fun w' hS=>XC rfl rfl) ?_;refine Qlf rfl rfl (Xm (xs:=([Ng.mk t at_]:List Ng)) (cells:=[.string t.Name,.int .i64 t.Nc,.int .i64 t.Nd,v,.int .i64 at_]) Tryz.underlying77 YM rfl (Qz rfl rfl QP) rfl (Eb (cs:=[.string t.Name,.int .i64 t.Nc,.int .i64 t.Nd,v,.int .i64 at_]) ⟨v,ht.ext e0,rfl⟩ Ee) rfl (hL.chg e0) ?_);intro b w1 e1 h1;refine ⟨e1,?_⟩;refine Qlf rfl rfl (Qu Tryz.func35 Qbs rfl (Yr rfl rfl rfl) (Qnu fl L _ (hL.chg (e0.trans e1)) [v1,v3,v5] net (Rep.step (Ec (e0.trans e1)) hn) _ [Ng.mk t at_] h1 (w64 (at_ - t.Nc)) r hs) ?_);rintro _ w2 ⟨e2,cs0,rfl,hrd⟩;exact ⟨e1.trans e2,Qth ⟨rfl,cs0,rfl,hrd⟩⟩
end Go.Gw

end
section
set_option maxRecDepth 100000
set_option maxHeartbeats 8000000
set_option linter.unusedVariables false
set_option linter.unusedSectionVars false
namespace Go.Gw
open Go Go.Conc Go.Proofs
attribute [local irreducible] T0 TS TT TP TX TZ Eff Stp WC Quiet gd
/-! ### What it comes to -/
noncomputable def Qjq (net:Nm) (t:Na) (k:Nat):Option Nn:=JT 4 net [Ng.mk t (t.Nc+k)] k
noncomputable def ZV (net:Nm) (t:Na):Nat->Option (List Nn)
 | 0=>some []
 | m+1=>Ea (ZV net t m) fun l=>Ea (Qjq net t m) fun r=>some (l++[r])
noncomputable def Zb:List Nn->Nn->Option Nn
 | [],b=>some b
 | p::ps,b=>Ea (Qbk p b) fun x=>Zb ps (bif x then p else b)
open Classical in
noncomputable def Qbj (net:Nm) (t:Na):Option Nn :=
 if 0<=t.Nc/\t.Nc<=t.Nd/\t.Nd<=1000000000 then
  Ea (ZV net t (t.Nd - t.Nc+1).toNat) fun rs=>if h:∃ r,∀ l:List Nn,l.Perm rs->Zb l ⟨[],0,false⟩=some r then some h.choose else none
 else none
theorem Qzk {net:Nm} {t:Na} {r:Nn} (h:Qbj net t=some r):(0<=t.Nc/\t.Nc<=t.Nd/\t.Nd<=1000000000)/\∃ rs,ZV net t (t.Nd - t.Nc+1).toNat=some rs/\∀ l:List Nn,l.Perm rs->Zb l ⟨[],0,false⟩=some r:=by
 unfold Qbj at h;split at h
 ·rename_i hc;refine ⟨hc,?_⟩;cases hl:ZV net t (t.Nd - t.Nc+1).toNat with
  | none=>rw [hl] at h;cases h
  | some rs =>
   rw [hl] at h;simp only [Ed] at h;split at h
   ·rename_i he;cases h;exact ⟨rs,rfl,he.choose_spec⟩
   ·cases h
 ·cases h
theorem Qfy {net:Nm} {t:Na}:∀ {m:Nat} {rs:List Nn},ZV net t m=some rs->rs.length=m/\∀ k r,rs[k]?=some r->Qjq net t k=some r
  | 0,rs,h=>by simp [ZV] at h;subst h;simp
  | m+1,rs,h=>by
    simp only [ZV] at h;cases hl:ZV net t m with
    | none=>rw [hl] at h;cases h
    | some l =>
      rw [hl] at h;simp only [Ed] at h;cases hr:Qjq net t m with
      | none=>rw [hr] at h;cases h
      | some r =>
        rw [hr] at h;simp only [Ed,Option.some.injEq] at h;subst h;obtain ⟨h1,h2⟩:=Qfy hl;refine ⟨by simp [h1],fun k x hx=>?_⟩;rcases Nat.lt_or_ge k l.length with h3 | h3
        · rw [List.getElem?_append_left h3] at hx;exact h2 k x hx
        · rw [List.getElem?_append_right h3] at hx;have hk:k - l.length=0:=by
            rcases Nat.eq_zero_or_pos (k - l.length) with h4 | h4
            · exact h4
            · rw [List.getElem?_eq_none (by simp;omega)] at hx;cases hx
          rw [hk] at hx;simp at hx;subst hx;have:k=m:=by omega
          subst this;exact hr
theorem Qiu:∀ (l:List Nn) (l2:List Nn) (b:Nn),Zb (l++l2) b=Ea (Zb l b) fun x=>Zb l2 x
 | [],l2,b=>rfl
 | p::l,l2,b=>by
  simp only [List.cons_append,Zb];cases Qbk p b with
  | none=>rfl
  | some x=>simp only [Ed];exact Qiu l l2 _
/-! ### The code -/
def YR:Code->Code
 | .seq _ y=>y
 | c=>c
def sq1:Code->Code
 | .seq x _=>x
 | c=>c
def els:Code->Code
 | .cond _ _ y=>y
 | c=>c
noncomputable def Qcz:Code:=YR (els (YR (sq1 (YR (YR (YR (YR (YR (Tryz.f13.body.getD .skip)))))))))
theorem XF {ρ:Env} {d i:Nat} {v:Value} (h:i≠d):Xk ρ (some d) v i=ρ i:=by simp [Xk,upd,Qft h]
theorem Jl {ρ:Env} {d i:Nat} {v:Value} (h:i < d):Xk ρ (some d) v i=ρ i:=by simp [Xk,upd,Qft (Nat.ne_of_lt h)]
theorem wi {i:Int} (h0:0<=i) (h1:i<=2000000000):w64 i=i:=Go.IntWalk.i64_in i ⟨by omega,by omega⟩
def lpB:Code->Code
 | .block _ (.loop c)=>c
 | c=>c
noncomputable def LB0:Code:=lpB (YR (sq1 (YR Qcz)))
noncomputable def JI:Code:=lpB (YR (YR (YR Qcz)))

section
variable {L:List Value} {w0:World} {b5 b8 b9:Nat} {net:Nm} {v1 v3 v5 v:Value} {t:Na} {ρ0:Env} {rs:List Nn} {m:Nat}
structure Par0 (L:List Value) (w0:World) (b5 b8 b9:Nat) (net:Nm) (v1 v3 v5 v:Value) (t:Na) (ρ0:Env) (rs:List Nn) (m:Nat):Prop where
 hL:LtL L w0
 h8:pt b8∈L
 n5:b5≠b8
 n9:b9≠b8
 r5:ρ0 5=pt b5
 r8:ρ0 8=pt b8
 r9:ρ0 9=pt b9
 B5:RowAt w0 b5 [v1,v3,v5]
 B9:RowAt w0 b9 [.string t.Name,.int .i64 t.Nc,.int .i64 t.Nd,v]
 rn:Rep.rd L w0 [v1,v3,v5] net
 rt:SlRd L w0 v t.Nv
 e0:0<=t.Nc
 e1:t.Nc<=t.Nd
 e2:t.Nd<=1000000000
 em:m=(t.Nd - t.Nc+1).toNat
 rs:ZV net t m=some rs

theorem Jg {b:Nat}:pt b∈[pt b]:=List.mem_singleton.2 rfl
theorem Qzu (hP:Par0 L w0 b5 b8 b9 net v1 v3 v5 v t ρ0 rs m) {c:Nat} (hc:w0.heap.size<=c) {S:Goroutine->World->Prop} {b:Frame} (hb:b.kind≠.early) {kk:List Item} {cs:List Frame} {b10:Nat} (h10:w0.heap.size<=b10)
    (hE:∀ ρ w Z orig,(∀ i,i < 10->ρ i=ρ0 i)->ρ 10=pt b10->Inv w0 b8 Z orig w->RowAt w b10 [.chan (some c)]->Box w b8 [.slice none 0 0,.int .i64 0,.bool false] 96->PW Tryz.prog c S Z orig (rs.map (ZC L)) (G (b.at (act 94 ρ) kk) cs) w) :
    ∀ (i j:Nat),j+i=m->∀ (ρ:Env) (w:World) (Z:Nat->Prop) (orig:Nat->Option Obj) (b11:Nat),(∀ i,i < 10->ρ i=ρ0 i)->ρ 10=pt b10->ρ 11=pt b11->Inv w0 b8 Z orig w->RowAt w b10 [.chan (some c)]->Box w b8 [.slice none 0 0,.int .i64 0,.bool false] 96 ->
      Box w b11 [.int .i64 (t.Nc+j)] 3->w0.heap.size<=b11->¬ Z b11->PW Tryz.prog c S Z orig ((rs.take j).map (ZC L)) (G (b.at (act 94 ρ) (.code LB0::.inLoop LB0::.inBlock 0::kk)) cs) w:=by
  obtain ⟨hrl,hrg⟩:=Qfy hP.rs;have hm:(m:Int)=t.Nd - t.Nc+1:=by have:=hP.em;have:=hP.e1;omega
  have hE0:=hP.e0;have hE2:=hP.e2;have h8lt:∀ {w Z orig},Inv w0 b8 Z orig w->b8 < w0.heap.size:=fun h=>h.lt8
  -- the loop's head
  have head : ∀ (j : Nat) (tr : Bool), tr = decide (t.Nc + j <= t.Nd) -> ∀ (ρ : Env) (w : World) (Z : Nat -> Prop) (orig : Nat -> Option Obj) (b11 : Nat) (O : List (Value -> World -> Prop)), (∀ i, i < 10 -> ρ i = ρ0 i) -> ρ 11 = pt b11 -> Inv w0 b8 Z orig w -> Box w b11 [.int .i64 (t.Nc + j)] 3 ->
      (∀ ρ',(∀ i,i < 44->ρ' i=ρ i)->PW Tryz.prog c S Z orig O (G (b.at (act 94 ρ') (.code (bif tr then .skip else .exit 0)::.code (YR LB0)::.inLoop LB0::.inBlock 0::kk)) cs) w) ->
      PW Tryz.prog c S Z orig O (G (b.at (act 94 ρ) (.code LB0::.inLoop LB0::.inBlock 0::kk)) cs) w:=by
    intro j tr htr ρ w Z orig b11 O hρ h11 hI hB11 hk;refine PW.of ?_
    letI:JD Tryz.prog:=⟨Jp Tryz.prog Z⟩
    have hB9:=hP.B9.step (hI.stepp (L:=[pt b8]) Jg) (Yi hP.n9);refine ZP (ZP (Qao (n:=94) (K:=fun ρ' w'=>w'=w/\ρ' 47=.bool tr/\∀ i,i < 44->ρ' i=ρ i) ?_ hb ?_))
    · refine Yd (v:=.int .i64 (t.Nc+j)) rfl (Qw QS h11 hB11.at) ?_;refine Yd (v:=.pointer (some ⟨b9,2,none⟩)) rfl (QB 2 Tryz.underlying91 rfl rfl ⟨0,QJ⟩ ((hρ 9 (by omega)).trans hP.r9) rfl) ?_;refine Yd (v:=.int .i64 t.Nd) rfl (Qw QS rfl (Eg hB9.at 2)) ?_;refine Yd (v:=.bool (decide (t.Nc+j<=t.Nd))) rfl (XW rfl rfl) ?_;exact Qb ⟨rfl,by rw [htr];rfl,fun i hi=>(Jl (by omega)).trans ((Jl (by omega)).trans ((Jl (by omega)).trans (Jl hi)))⟩
    · rintro ρ' w' ⟨rfl,h47,hr⟩;exact Qhv (n:=94) (by exact h47) (hk ρ' hr).stop
  intro i
  induction i with
  | zero =>
    intro j hj ρ w Z orig b11 hρ hρ10 hρ11 hI hR10 hB8 hB11 h11 hz11;obtain rfl:j=m:=by omega
    refine head j false (by simp;omega) ρ w Z orig b11 _ hρ hρ11 hI hB11 fun ρ' hr=>PW.of ?_
    letI:JD Tryz.prog:=⟨Jp Tryz.prog Z⟩
    refine Qmu rfl ?_;rw [List.take_of_length_le (by omega)];exact (hE ρ' w Z orig (fun i hi=>(hr i (by omega)).trans (hρ i hi)) ((hr 10 (by omega)).trans hρ10) hI hR10 hB8).stop
  | succ i ih =>
    intro j hj ρ w Z orig b11 hρ hρ10 hρ11 hI hR10 hB8 hB11 h11 hz11;refine head j true (by simp;omega) ρ w Z orig b11 _ hρ hρ11 hI hB11 fun ρ1 hr1=>PW.of ?_
    letI:JD Tryz.prog:=⟨Jp Tryz.prog Z⟩
    refine Qkb (ZP (Qel (Qju ?_)))
    -- the go statement
    have q5:ρ1 5=pt b5:=(hr1 5 (by omega)).trans ((hρ 5 (by omega)).trans hP.r5);have q9:ρ1 9=pt b9:=(hr1 9 (by omega)).trans ((hρ 9 (by omega)).trans hP.r9);have q10:ρ1 10=pt b10:=(hr1 10 (by omega)).trans hρ10;have q11:ρ1 11=pt b11:=(hr1 11 (by omega)).trans hρ11;refine Qpz (n:=94) (i:=0) (rest:=[1]) (K:=fun v w'=>v=.func (.func 36) #[] (List.toArray [pt b10,pt b5,pt b9,pt b11])/\w'=w) rfl rfl ?_ hb ?_
    · exact Qmr (Qha (cs:=[pt b10,pt b5,pt b9,pt b11]) (ev4 q10 q5 q9 q11)) ⟨rfl,rfl⟩
    rintro _ w' ⟨rfl,rfl⟩;refine .stop fun w1 r1=>?_;have hjm:j < m:=by omega
    obtain ⟨r,hr⟩:∃ r,rs[j]?=some r:=⟨_,List.getElem?_eq_getElem (by omega)⟩;have hrun:=hrg j r hr;have hI1:=hI.rel r1;have hsz:w0.heap.size<=w'.heap.size:=hI.size;have hB11':Box w1 b11 [.int .i64 (t.Nc+j)] 3:=hB11.ext r1.ext;have n11:b11≠b8:=fun e=>by have:=hI.lt8;omega
    have n10:b10≠b8:=fun e=>by have:=hI.lt8;omega
    have hv:(act 94 (Xk ρ1 (some 50) (.func (.func 36) #[] (List.toArray [pt b10,pt b5,pt b9,pt b11])))).eval (.tmp 50)=.func (.func 36) #[] (List.toArray [pt b10,pt b5,pt b9,pt b11]):=by rw [Js];rfl
    refine PW.go (CC w1 b8) (ZC L r) rfl rfl (by kernel_rfl) hb (f:=36) (caps:=#[pt b10,pt b5,pt b9,pt b11]) (fun W=>?_) (fun W=>?_) rfl (fun w2 r2=>Quv r2) (fun w2 r2=>?_) (fun w2 r2=>?_)
    · simp only [resolve,hv];simp [Deferred.ofValue]
    · simp only [resolve,hv];simp [Deferred.ofValue]
    · -- the Qst
      have sc:=Qmh (Z:=Z) (w:=w1) (w1:=w2) (L:=L) hP.h8 r2;have sc8:=Qmh (Z:=Z) (w:=w1) (w1:=w2) (L:=[pt b8]) Jg r2;have s0:=(hI1.stepp hP.h8).trans sc;have s08:=(hI1.stepp (L:=[pt b8]) Jg).trans sc8;refine Qst (fl:=4) (t:=t) (at_:=t.Nc+j) (fun x hx k hk=>?_) (Rep.step s0 hP.rn) (hP.B5.step s08 (Yi hP.n5)) (hP.rt.step s0) (hP.B9.step s08 (Yi hP.n9)) (RowAt.step sc8 (Yi n10) (hR10.step (Ec (L:=[pt b8]) r1.ext) (Yi n10))) (RowAt.step sc8 (Yi n11) hB11'.row) ?_
      · have h1:=hP.hL x hx k hk;rw [Qiw,Qfg];have:=r2.size;have:=hI1.size;omega
      · rw [show t.Nc+(j:Int) - t.Nc=j by omega,wi (by omega) (by omega)];exact hrun
    · -- on
      have hI2:=hI1.frz r2;have hO:(rs.take j).map (ZC L)++[ZC L r]=(rs.take (j+1)).map (ZC L):=by rw [List.take_add_one,hr];simp
      rw [hO];have sf:=Qzy (w:=w1) (w1:=w2) (b8:=b8) (L:=[pt b8]) r2;have hR10':RowAt (frz (CC w1 b8) w2) b10 [.chan (some c)]:=RowAt.step sf (Yi n10) (hR10.step (Ec (L:=[pt b8]) r1.ext) (Yi n10));have hR11':RowAt (frz (CC w1 b8) w2) b11 [.int .i64 (t.Nc+j)]:=RowAt.step sf (Yi n11) hB11'.row;have hB8':=Qzx r2 (hB8.ext r1.ext);generalize frz (CC w1 b8) w2=w3 at hI2 hR10' hR11' hB8' ⊢;generalize hρ2:Xk ρ1 (some 50) (.func (.func 36) #[] (List.toArray [pt b10,pt b5,pt b9,pt b11]))=ρ2;generalize (fun b=>Z b\/CC w1 b8 b)=Z2 at hI2 ⊢;generalize Jf Z (CC w1 b8) w2 orig=orig2 at hI2 ⊢;have hr2:∀ i,i < 44->ρ2 i=ρ1 i:=fun i hi=>by rw [<-hρ2];exact Jl (by omega)
      have hz3:∀ {x},Z2 x->x < w3.heap.size:=fun hx=>by obtain ⟨_,_,_,_,h1,_⟩:=hI2.zrow _ hx;exact Zc h1
      refine PW.of ?_
      letI:JD Tryz.prog:=⟨Jp Tryz.prog Z2⟩
      refine Qwe (Qoh (Qml (n:=94) (K:=fun ρ' w'=>(∀ i,i < 11->ρ' i=ρ2 i)/\∃ b',ρ' 11=pt b'/\Inv w0 b8 Z2 orig2 w'/\RowAt w' b10 [.chan (some c)]/\Box w' b8 [.slice none 0 0,.int .i64 0,.bool false] 96/\Box w' b' [.int .i64 (t.Nc+(j+1:Nat))] 3/\w0.heap.size<=b'/\¬ Z2 b') ?_ hb ?_))
      · refine Qeb (Qeb (QF (Yd (v:=.int .i64 (t.Nc+j)) rfl (Qw QS ((hr2 11 (by omega)).trans q11) hR11'.at) (Qb (QF (Qh rfl (Xd zi3 fun b' w4 hb4 e4 hB4=>?_)))))));refine Qh rfl (Y4 (vs:=[.int .i64 (t.Nc+j)]) (cs':=[.int .i64 (t.Nc+j)]) QJ rfl rfl rfl rfl hB4 rfl (Qj rfl QE) rfl fun w5 c5 hB5=>Qb (QF ?_));refine Yd (v:=.int .i64 (t.Nc+j)) rfl (Qw QS rfl hB5.at) ?_;refine Yd (v:=.int .i64 (w64 (t.Nc+j+1))) rfl (QH rfl rfl) ?_;rw [show w64 (t.Nc+j+1)=t.Nc+(j+1:Nat) by rw [wi (by omega) (by omega)];omega];refine Qh rfl (Y4 (vs:=[.int .i64 (t.Nc+(j+1:Nat))]) (cs':=[.int .i64 (t.Nc+(j+1:Nat))]) QJ rfl rfl rfl rfl hB5 rfl (Qj rfl QE) rfl fun w6 c6 hB6=>Qb ?_);have hzb:¬ Z2 b':=fun hx=>by have:=hz3 hx;omega
        have hbw:w0.heap.size<=b':=Nat.le_trans hI2.size hb4;have nb8:b8≠b':=fun e=>by have:=hI2.lt8;omega
        have nb10:b10≠b':=fun e=>by have:=hR10'.lt;omega
        refine ⟨fun i hi=>?_,b',rfl,((hI2.ext e4).chg c5 (.inr ⟨hbw,hzb⟩)).chg c6 (.inr ⟨hbw,hzb⟩),?_,?_,hB6,hbw,hzb⟩
        · exact (Jl (by omega)).trans ((Jl (by omega)).trans ((Jl (by omega)).trans (Jl (by omega))))
        · have k1:=hR10'.step (Ec (L:=[pt b']) e4) (Yi nb10);exact (k1.step (Ql (L:=[pt b']) c5 Jg) (Yi nb10)).step (Ql (L:=[pt b']) c6 Jg) (Yi nb10)
        · exact ((hB8'.ext e4).chg c5 (Yi nb8)).chg c6 (Yi nb8)
      · rintro ρ' w' ⟨k1,b',k2,k3,k4,k5,k6,k7,k8⟩;refine Qoi ?_;exact (ih (j+1) (by omega) ρ' w' Z2 orig2 b' (fun i hi=>(k1 i (by omega)).trans ((hr2 i (by omega)).trans ((hr1 i (by omega)).trans (hρ i hi)))) ((k1 10 (by omega)).trans ((hr2 10 (by omega)).trans q10)) k2 k3 k4 k5 k6 k7 k8).stop
end
end Go.Gw

end
section
set_option maxRecDepth 100000
set_option maxHeartbeats 8000000
set_option linter.unusedVariables false
set_option linter.unusedSectionVars false
namespace Go.Gw
open Go Go.Conc Go.Proofs
attribute [local irreducible] T0 TS TT TP TX TZ Eff Stp WC Quiet gd
theorem zi96':ZI Tryz.prog 96 [.slice none 0 0,.int .i64 0,.bool false]:=Y0 (by kernel_rfl)
section
variable {L:List Value} {w0:World} {b5 b8 b9:Nat} {net:Nm} {v1 v3 v5 v:Value} {t:Na} {ρ0:Env} {rs:List Nn} {m:Nat}

theorem QBm {α β:Type} {f:α->β} {l:List α} {O1 O2:List β} {φ:β} (h:l.map f=O1++φ::O2):∃ l1 p l2,l=l1++p::l2/\l1.map f=O1/\f p=φ/\l2.map f=O2:=by
 obtain ⟨l1,l',rfl,h1,h2⟩:=List.map_eq_append_iff.1 h;obtain ⟨p,l2,rfl,h3,h4⟩:=List.map_eq_cons_iff.1 h2;exact ⟨l1,p,l2,rfl,h1,h3,h4⟩

theorem QFb (hP:Par0 L w0 b5 b8 b9 net v1 v3 v5 v t ρ0 rs m) {r:Nn} (hr:∀ l:List Nn,l.Perm rs->Zb l ⟨[],0,false⟩=some r) {c:Nat} (hc:w0.heap.size<=c) {S:Goroutine->World->Prop} {b:Frame} (hb:b.kind≠.early) {kk:List Item} {cs:List Frame} {b10:Nat} (h10:w0.heap.size<=b10)
    (hE:∀ ρ w v8,(∀ i,i < 10->ρ i=ρ0 i)->Chg [pt b8] w0 w->SlRd L w v8 r.at_->Box w b8 [v8,.int .i64 r.delay,.bool r.found] 96->S (G (b.at (act 94 ρ) kk) cs) w) :
    ∀ (i:Nat) (rem dn:List Nn) (best:Nn),rem.length=i->(dn++rem).Perm rs->Zb dn ⟨[],0,false⟩=some best->∀ (ρ:Env) (w:World) (Z:Nat->Prop) (orig:Nat->Option Obj) (v8:Value),
      (∀ i,i < 10->ρ i=ρ0 i)->ρ 10=pt b10->ρ 57=.int .i64 m->ρ 58=.int .i64 (m - i:Int)->Inv w0 b8 Z orig w->RowAt w b10 [.chan (some c)]->Box w b8 [v8,.int .i64 best.delay,.bool best.found] 96->SlRd L w v8 best.at_ ->
      PW Tryz.prog c S Z orig (rem.map (ZC L)) (G (b.at (act 94 ρ) (.code JI::.inLoop JI::.inBlock 2::kk)) cs) w:=by
  obtain ⟨hrl,hrg⟩:=Qfy hP.rs;have hm:(m:Int)=t.Nd - t.Nc+1:=by have:=hP.em;have:=hP.e1;omega
  have hE0:=hP.e0;have hE2:=hP.e2;have n10:∀ {w Z orig},Inv w0 b8 Z orig w->b10≠b8:=fun h e=>by have:=h.lt8;omega
  have head : ∀ (i : Nat) (tr : Bool), i <= m -> tr = decide (0 < i) -> ∀ (ρ : Env) (w : World) (Z : Nat -> Prop) (orig : Nat -> Option Obj) (O : List (Value -> World -> Prop)), ρ 57 = .int .i64 m -> ρ 58 = .int .i64 (m - i : Int) ->
      (∀ ρ',(∀ i,i < 59->ρ' i=ρ i)->PW Tryz.prog c S Z orig O (G (b.at (act 94 ρ') (.code (bif tr then .skip else .exit 2)::.code (YR (YR JI))::.inLoop JI::.inBlock 2::kk)) cs) w) ->
      PW Tryz.prog c S Z orig O (G (b.at (act 94 ρ) (.code JI::.inLoop JI::.inBlock 2::kk)) cs) w:=by
    intro i tr him htr ρ w Z orig O h57 h58 hk;refine PW.of ?_
    letI:JD Tryz.prog:=⟨Jp Tryz.prog Z⟩
    refine ZP (Qao (n:=94) (K:=fun ρ' w'=>w'=w/\ρ' 59=.bool tr/\∀ i,i < 59->ρ' i=ρ i) ?_ hb ?_)
    · refine Yd (v:=.bool (decide ((m - i:Int) < m))) rfl (Q5 h58 h57) ?_;refine Qb ⟨rfl,?_,fun i hi=>Jl hi⟩;rw [htr];show Value.bool (decide ((m - i:Int) < m))=_;congr 1;by_cases h:0 < i
      · rw [decide_eq_true h,decide_eq_true];omega
      · rw [decide_eq_false h,decide_eq_false];omega
    · rintro ρ' w' ⟨rfl,h59,hr'⟩;exact ZP (Qhv (n:=94) (by exact h59) (hk ρ' hr').stop)
  intro i
  induction i with
  | zero =>
    intro rem dn best hlen hperm hfold ρ w Z orig v8 hρ hρ10 h57 h58 hI hR10 hB8 hs8;obtain rfl:=List.eq_nil_of_length_eq_zero hlen;refine head 0 false (Nat.zero_le _) (by simp) ρ w Z orig _ h57 h58 fun ρ' hr'=>PW.of ?_
    letI:JD Tryz.prog:=⟨Jp Tryz.prog Z⟩
    refine Qmu rfl (.stop fun w1 r1=>.done rfl fun w2 r2=>?_);rw [List.append_nil] at hperm;have hbr:best=r:=by have:=hr dn hperm;rw [hfold] at this;exact Option.some.inj this
    subst hbr;have hI2:=(hI.rel r1).rel r2;exact hE ρ' _ v8 (fun i hi=>(hr' i (by omega)).trans (hρ i hi)) hI2.thaw (((hs8.step (Ec r1.ext)).step (Ec r2.ext)).step hI2.thawS) (hI2.thawB ((hB8.ext r1.ext).ext r2.ext))
  | succ i ih =>
    intro rem dn best hlen hperm hfold ρ w Z orig v8 hρ hρ10 h57 h58 hI hR10 hB8 hs8;have him:i+1<=m:=by
      have h1:=hperm.length_eq;rw [List.length_append] at h1;omega
    refine head (i+1) true him (by simp) ρ w Z orig _ h57 h58 fun ρ1 hr1=>PW.of ?_
    letI:JD Tryz.prog:=⟨Jp Tryz.prog Z⟩
    have q10:ρ1 10=pt b10:=(hr1 10 (by omega)).trans hρ10;refine Qkb (ZP (Qel (ZP (Qju ?_))));refine Qpz (n:=94) (i:=0) (rest:=[1,2,3]) (K:=fun v w'=>v=.chan (some c)/\w'=w) rfl rfl (Qmr (Qw Qqw q10 hR10.at) ⟨rfl,rfl⟩) hb ?_;rintro _ w' ⟨rfl,rfl⟩;refine .stop fun w1 r1=>?_;obtain ⟨inf,z,hz1,hz2,_⟩:=zi96'.ex;refine PW.rcv (z:=z) rfl rfl (by kernel_rfl) hb Tryz.underlying98 ⟨inf,hz1,hz2⟩ (by rw [Js];rfl) (fun e=>by rw [List.map_eq_nil_iff] at e;subst e;simp at hlen) ?_;intro O1 φ O2 hO w2 xw w3 u r2 hφ hsh hmo hlo;obtain ⟨rem1,p,rem2,rfl,hO1,hφp,hO2⟩:=QBm hO;subst hO1;subst hφp;subst hO2;obtain ⟨cs0,rfl,hp⟩:=hφ;obtain ⟨v9,hs9,rfl⟩:=hp;have hI3:=((hI.rel r1).rel r2).more hmo hlo hc;have hR3:=((hR10.step (Ec (L:=[]) r1.ext) (Avoids.nil _)).step (Ec (L:=[]) r2.ext) (Avoids.nil _)).step (Shows.stepp (L:=[]) hmo.shows) (Avoids.nil _);have hB3:=hmo.shows.box ((hB8.ext r1.ext).ext r2.ext);have hs3:=((hs8.step (Ec r1.ext)).step (Ec r2.ext)).step (Shows.stepp hmo.shows);have hs9:=hs9.step (Shows.stepp hsh)
    -- the plan's place among the others
    have hperm2:(dn++p::(rem1++rem2)).Perm rs:=((List.Perm.append_left dn List.perm_middle).symm).trans hperm;have hf2:=hr _ hperm2;rw [Qiu,hfold,Ed] at hf2;simp only [Zb] at hf2;obtain ⟨x,hx⟩:∃ x,Qbk p best=some x:=by
      cases hbs:Qbk p best with
      | none=>rw [hbs] at hf2;cases hf2
      | some x=>exact ⟨x,rfl⟩
    have hfold2:Zb (dn++[p]) ⟨[],0,false⟩=some (bif x then p else best):=by
      rw [Qiu,hfold,Ed];simp only [Zb,hx,Ed]
    have fin : ∀ (ρ' : Env) (w4 : World) (v8' : Value), (∀ i, i < 12 -> ρ' i = ρ1 i) -> ρ' 57 = ρ1 57 -> ρ' 58 = ρ1 58 -> Inv w0 b8 Z orig w4 -> RowAt w4 b10 [.chan (some c)] -> Box w4 b8 [v8', .int .i64 (bif x then p else best).delay, .bool (bif x then p else best).found] 96 -> SlRd L w4 v8' (bif x then p else best).at_ ->
        Wlk (Jp Tryz.prog Z) (fun g w=>PW Tryz.prog c S Z orig (rem1.map (ZC L)++rem2.map (ZC L)) g w) (G (b.at (act 94 ρ') (.inBlock 3::.code (YR (YR (YR JI)))::.inLoop JI::.inBlock 2::kk)) cs) w4:=by
      intro ρ' w4 v8' k1 k2 k3 k4 k5 k6 k7
      letI:JD Tryz.prog:=⟨Jp Tryz.prog Z⟩
      refine Qoh (Qao (n:=94) (K:=fun ρ2 w5=>w5=w4/\(∀ i,i < 12->ρ2 i=ρ' i)/\ρ2 57=ρ' 57/\ρ2 58=.int .i64 (m - i:Int)) ?_ hb ?_)
      · refine Yd (v:=.int .i64 (w64 ((m - (i+1:Nat):Int)+1))) rfl (QH (k3.trans ((hr1 58 (by omega)).trans h58)) rfl) ?_;refine Yd (v:=.int .i64 (w64 ((m - (i+1:Nat):Int)+1))) rfl (Qp rfl) ?_;refine Qb ⟨rfl,fun j hj=>(XF (by omega)).trans (XF (by omega)),(XF (by omega)).trans (XF (by omega)),?_⟩;show Value.int .i64 (w64 ((m - (i+1:Nat):Int)+1))=_;rw [wi (by omega) (by omega)];congr 1;omega
      · rintro ρ2 w5 ⟨rfl,j1,j2,j3⟩;refine Qoi ?_;rw [<-List.map_append];exact (ih (rem1++rem2) (dn++[p]) _ (by simp at hlen ⊢;omega) (by simpa using hperm2) hfold2 ρ2 w5 Z orig v8' (fun i hi=>(j1 i (by omega)).trans ((k1 i (by omega)).trans ((hr1 i (by omega)).trans (hρ i hi)))) ((j1 10 (by omega)).trans ((k1 10 (by omega)).trans q10)) (j2.trans (k2.trans ((hr1 57 (by omega)).trans h57))) j3 k4 k5 k6 k7).stop
    refine PW.of ?_;rw [Z5]
    letI:JD Tryz.prog:=⟨Jp Tryz.prog Z⟩
    have hz3:∀ {x},Z x->x < w3.heap.size:=fun hx=>by obtain ⟨_,_,_,_,h1,_⟩:=hI3.zrow _ hx;exact Zc h1
    refine Qqb (n:=94) (k:=2) (m:=2) (K:=fun ρ' w4=>(∀ i,i < 12->ρ' i=ρ1 i)/\ρ' 57=ρ1 57/\ρ' 58=ρ1 58/\∃ b12,ρ' 12=pt b12/\Inv w0 b8 Z orig w4/\RowAt w4 b10 [.chan (some c)]/\Box w4 b8 [v8,.int .i64 best.delay,.bool best.found] 96/\SlRd L w4 v8 best.at_ /\
      Box w4 b12 [v9,.int .i64 p.delay,.bool p.found] 96/\SlRd L w4 v9 p.at_) rfl ?_ hb ?_
    · refine Qh rfl (Xd zi96' fun b' w4 hb4 e4 hB4=>?_);refine Qh rfl (Y4 (vs:=[v9,.int .i64 p.delay,.bool p.found]) (cs':=[v9,.int .i64 p.delay,.bool p.found]) Zm rfl rfl rfl rfl hB4 rfl (Qj hs9.one1 (Qj rfl (Qj rfl QE))) rfl fun w5 c5 hB5=>Qb ?_);have hzb:¬ Z b':=fun hx=>by have:=hz3 hx;omega
      have hbw:w0.heap.size<=b':=Nat.le_trans hI3.size hb4;have nb8:b8≠b':=fun e=>by have:=hI3.lt8;omega
      have nb10:b10≠b':=fun e=>by have:=hR3.lt;omega
      have hLb:∀ {v xs},SlRd L w3 v xs->SlRd L w5 v (xs:List Int):=fun h=>by
        have h1:SlRd (pt b'::L) w4 _ _:=h.step (Stepp.add (pt b') e4 (fun k hk=>by simp [pt,Qs] at hk;omega));exact (h1.step (Ql c5 (List.mem_cons_self ..))).sub (fun _ hx=>List.mem_cons_of_mem _ hx)
      refine ⟨fun j hj=>(XF (by omega)).trans ((XF (by omega)).trans (XF (by omega))),(XF (by omega)).trans ((XF (by omega)).trans (XF (by omega))),(XF (by omega)).trans ((XF (by omega)).trans (XF (by omega))),b',rfl,(hI3.ext e4).chg c5 (.inr ⟨hbw,hzb⟩),?_,(hB3.ext e4).chg c5 (Yi nb8),hLb hs3,hB5,hLb hs9⟩;exact (hR3.step (Ec (L:=[pt b']) e4) (Yi nb10)).step (Ql (L:=[pt b']) c5 Jg) (Yi nb10)
    · rintro ρ2 w4 ⟨k1,k2,k3,b12,k4,k5,k6,k7,k8,k9,k10⟩;have q8:ρ2 8=pt b8:=(k1 8 (by omega)).trans ((hr1 8 (by omega)).trans ((hρ 8 (by omega)).trans hP.r8));refine ZP (Qao (n:=94) (K:=fun ρ' w5=>(∀ i,i < 13->ρ' i=ρ2 i)/\ρ' 57=ρ2 57/\ρ' 58=ρ2 58/\ρ' 64=.bool x/\Ext w4 w5) ?_ hb ?_)
      · refine Yd (v:=.agg (List.toArray [v9,.int .i64 p.delay,.bool p.found])) rfl (XM (cs:=[v9,.int .i64 p.delay,.bool p.found]) YP k4 k9.at) ?_;refine Yd (v:=.agg (List.toArray [v8,.int .i64 best.delay,.bool best.found])) rfl (XM (cs:=[v8,.int .i64 best.delay,.bool best.found]) YP q8 k7.at) ?_;refine Qh rfl (Qu Tryz.func37 Qcx rfl (QR rfl rfl) (@Qct _ [] _ (Eh _) [v9,.int .i64 p.delay,.bool p.found] p ⟨v9,k10.sub (fun _ h=>by cases h),rfl⟩ [v8,.int .i64 best.delay,.bool best.found] best ⟨v8,k8.sub (fun _ h=>by cases h),rfl⟩ x hx) ?_);rintro _ w5 ⟨e5,rfl⟩;exact Qb ⟨fun j hj=>(XF (by omega)).trans ((XF (by omega)).trans (XF (by omega))),(XF (by omega)).trans ((XF (by omega)).trans (XF (by omega))),(XF (by omega)).trans ((XF (by omega)).trans (XF (by omega))),rfl,e5⟩
      · rintro ρ3 w5 ⟨j1,j2,j3,j4,e5⟩;refine Qhv (n:=94) (by exact j4) ?_;have g1:∀ i,i < 12->ρ3 i=ρ1 i:=fun i hi=>(j1 i (by omega)).trans (k1 i hi)
        have k6':=k6.step (Ec (L:=[]) e5) (Avoids.nil _);cases x with
        | false=>exact Qkb (fin ρ3 w5 v8 g1 (j2.trans k2) (j3.trans k3) (k5.ext e5) k6' (k7.ext e5) (k8.step (Ec e5)))
        | true =>
          refine Qao (n:=94) (K:=fun ρ' w6=>(∀ i,i < 12->ρ' i=ρ3 i)/\ρ' 57=ρ3 57/\ρ' 58=ρ3 58/\Chg [pt b8] w5 w6/\Box w6 b8 [v9,.int .i64 p.delay,.bool p.found] 96) ?_ hb ?_
          · refine Yd (v:=.agg (List.toArray [v9,.int .i64 p.delay,.bool p.found])) rfl (XM (cs:=[v9,.int .i64 p.delay,.bool p.found]) YP ((j1 12 (by omega)).trans k4) (k9.ext e5).at) ?_;refine Qh rfl (Y4 (vs:=[v9,.int .i64 p.delay,.bool p.found]) (cs':=[v9,.int .i64 p.delay,.bool p.found]) Zm rfl rfl ((g1 8 (by omega)).trans ((hr1 8 (by omega)).trans ((hρ 8 (by omega)).trans hP.r8))) rfl (k7.ext e5) rfl (Qj k10.one1 (Qj rfl (Qj rfl QE))) rfl fun w6 c6 hB6=>Qb ?_);exact ⟨fun j hj=>XF (by omega),XF (by omega),XF (by omega),c6,hB6⟩
          · rintro ρ4 w6 ⟨i1,i2,i3,c6,hB6⟩;refine fin ρ4 w6 v9 (fun i hi=>(i1 i hi).trans (g1 i hi)) (i2.trans (j2.trans k2)) (i3.trans (j3.trans k3)) ((k5.ext e5).chg c6 (.inl rfl)) ?_ hB6 (((k10.step (Ec e5)).step (Ql c6 hP.h8)));exact k6'.step (Ql (L:=[pt b8]) c6 Jg) (Yi (n10 k5))
end
end Go.Gw

end
section
set_option maxRecDepth 100000
set_option maxHeartbeats 1000000
set_option linter.unusedVariables false
set_option linter.unusedSectionVars false
namespace Go.Gw
open Go Go.Conc Go.Proofs
attribute [local irreducible] T0 TS TT TP TX TZ Eff Stp WC Quiet gd
instance topJ:JD Tryz.prog:=⟨Jm Tryz.prog⟩
def QFi:Code->List Oper
 | .region _ o _=>o.toList
 | _=>[]
noncomputable def ops11:List Oper:=QFi (sq1 Qcz)
theorem Quw {ρ:Env} {w:World} {b:Frame} {k:List Item} {cs:List Frame} {S:Goroutine->World->Prop} (hb:b.kind≠.early)
    (h:∀ c w1,Rel w w1->w.heap.size<=c->PW Tryz.prog c S (fun _=>False) (fun _=>none) [] (G (b.at (act 94 (Xk ρ (some 41) (.chan (some c)))) (.inRegion ops11.toArray [1,2]::k)) cs) w1) :
    ∀ w1,Rel w w1->(Jm Tryz.prog).Ph (G (b.at (act 94 ρ) (.inRegion ops11.toArray [0,1,2]::k)) cs) w1 S:=by
  refine Qux (g:=G (b.at (act 94 ρ) (.inRegion ops11.toArray [0,1,2]::k)) cs) rfl (fun c=>G (b.at (act 94 (Xk ρ (some 41) (.chan (some c)))) (.inRegion ops11.toArray [1,2]::k)) cs) (fun W=>?_) h
  have e : ops11.toArray[0]? = some { dst := some 41, op := .makeChan 98 (.const (.int .i64 0)), type := 98, pos := "plan.go:64", after := #[], guard := none } := by kernel_rfl
  have:=QHe (P:=Tryz.prog) (main:=true) (b:=b) (a:=act 94 ρ) (k:=k) (cs:=cs) (ops:=ops11.toArray) (i:=0) (rest:=[1,2]) e rfl rfl hb Tryz.underlying98 (by rw [Js];rfl) (by kernel_rfl) W;rw [Z5] at this;exact this
section
variable {L:List Value} {w:World} {b5 b8 b9:Nat} {net:Nm} {v1 v3 v5 v:Value} {t:Na} {ρ:Env} {q:Post} {r:Nn}
theorem QEs (hL:LtL L w) (h8:pt b8∈L) (n5:b5≠b8) (n9:b9≠b8) (r5:ρ 5=pt b5) (r8:ρ 8=pt b8) (r9:ρ 9=pt b9) (hB5:Box w b5 [v1,v3,v5] 76) (hB9:Box w b9 [.string t.Name,.int .i64 t.Nc,.int .i64 t.Nd,v] 91) (hB8:Box w b8 [.slice none 0 0,.int .i64 0,.bool false] 96)
  (hn:Rep.rd L w [v1,v3,v5] net) (ht:SlRd L w v t.Nv) (h:Qbj net t=some r)
  (hK:∀ ρ' w' v8,(∀ i,i < 10->ρ' i=ρ i)->Chg [pt b8] w w'->SlRd L w' v8 r.at_->Box w' b8 [v8,.int .i64 r.delay,.bool r.found] 96->q.norm ρ' w'):WC Tryz.prog 94 Qcz q ρ w:=by
 obtain ⟨⟨e0,e1,e2⟩,rs,hrs,hr⟩:=Qzk h;have hP:Par0 L w b5 b8 b9 net v1 v3 v5 v t ρ rs (t.Nd - t.Nc+1).toNat:=⟨hL,h8,n5,n9,r5,r8,r9,hB5.row,hB9.row,hn,ht,e0,e1,e2,rfl,hrs⟩;have hlen:=(Qfy hrs).1;unfold WC;intro b k cs Stop hb hQ;show Wlk (Jm Tryz.prog) Stop _ w;refine ZP (Qju ?_);show Wlk (Jm Tryz.prog) Stop (G (b.at (act 94 ρ) (.inRegion ops11.toArray [0,1,2]::.code (YR Qcz)::k)) cs) w;refine .phase (fun g' w'=>∃ ρ',g'=G (b.at (act 94 ρ') k) cs/\q.norm ρ' w') rfl ?_ ?_
 ·refine Quw hb fun c w1 r1 hc=>?_;have hI1:=(Inv.start hB8.lt).rel r1;have hB81:=hB8.ext r1.ext;refine PW.of ?_
  letI:JD Tryz.prog:=⟨Jp Tryz.prog fun _=>False⟩
  refine Qqb (ops:=ops11) (n:=94) (k:=1) (m:=2) (K:=fun ρ' w2=>(∀ i,i < 10->ρ' i=ρ i)/\∃ b10,ρ' 10=pt b10/\w.heap.size<=b10/\Inv w b8 (fun _=>False) (fun _=>none) w2/\RowAt w2 b10 [.chan (some c)]/\Box w2 b8 [.slice none 0 0,.int .i64 0,.bool false] 96) rfl ?_ hb ?_
  ·refine Qh rfl (Xd QKl fun b' w4 hb4 e4 hB4=>?_);refine Qh rfl (Y4 (vs:=[.chan (some c)]) (cs':=[.chan (some c)]) QHq rfl rfl rfl rfl hB4 rfl (Qj rfl QE) rfl fun w5 c5 hB5=>Qb ?_);have hbw:w.heap.size<=b':=Nat.le_trans hI1.size hb4;have nb8:b8≠b':=fun e=>by have:=hI1.lt8;omega
   exact ⟨fun i hi=>(XF (by omega)).trans (XF (by omega)),b',rfl,hbw,(hI1.ext e4).chg c5 (.inr ⟨hbw,fun h=>h⟩),hB5.row,(hB81.ext e4).chg c5 (Yi nb8)⟩
  ·rintro ρ2 w2 ⟨k1,b10,k2,k3,k4,k5,k6⟩;refine ZP (ZP (Qao (n:=94) (K:=fun ρ' w3=>(∀ i,i < 11->ρ' i=ρ2 i)/\∃ b11,ρ' 11=pt b11/\w.heap.size<=b11/\Inv w b8 (fun _=>False) (fun _=>none) w3/\RowAt w3 b10 [.chan (some c)]/\Box w3 b8 [.slice none 0 0,.int .i64 0,.bool false] 96/\Box w3 b11 [.int .i64 t.Nc] 3) ?_ hb ?_))
   ·have hB9':=hP.B9.step (k4.stepp (L:=[pt b8]) Jg) (Yi n9);refine Yd (v:=.pointer (some ⟨b9,1,none⟩)) rfl (QB 1 Tryz.underlying91 rfl rfl ⟨0,QJ⟩ ((k1 9 (by omega)).trans r9) rfl) ?_;refine Yd (v:=.int .i64 t.Nc) rfl (Qw QS rfl (Eg hB9'.at 1)) ?_;refine Qh rfl (Xd zi3 fun b' w4 hb4 e4 hB4=>?_);refine Qh rfl (Y4 (vs:=[.int .i64 t.Nc]) (cs':=[.int .i64 t.Nc]) QJ rfl rfl rfl rfl hB4 rfl (Qj rfl QE) rfl fun w5 c5 hB5=>Qb ?_);have hbw:w.heap.size<=b':=Nat.le_trans k4.size hb4;have nb8:b8≠b':=fun e=>by have:=k4.lt8;omega
    have nb10:b10≠b':=fun e=>by have:=k5.lt;omega
    refine ⟨fun i hi=>(XF (by omega)).trans ((XF (by omega)).trans (XF (by omega))),b',rfl,hbw,(k4.ext e4).chg c5 (.inr ⟨hbw,fun h=>h⟩),?_,(k6.ext e4).chg c5 (Yi nb8),hB5⟩;exact (k5.step (Ec (L:=[pt b']) e4) (Yi nb10)).step (Ql (L:=[pt b']) c5 Jg) (Yi nb10)
   ·rintro ρ3 w3 ⟨j1,b11,j2,j3,j4,j5,j6,j7⟩;refine Qel (Qox ?_);have g1:∀ i,i < 10->ρ3 i=ρ i:=fun i hi=>(j1 i (by omega)).trans (k1 i hi)
    refine (Qzu hP (b10:=b10) hc hb k3 (fun ρ4 w4 Z orig i1 i2 i3 i4 i5=>?_) (t.Nd - t.Nc+1).toNat 0 (by omega) ρ3 w3 (fun _=>False) (fun _=>none) b11 g1 ((j1 10 (by omega)).trans k2) j2 j4 j5 j6 (by simpa using j7) j3 (fun h=>h)).stop;refine PW.of ?_
    letI:JD Tryz.prog:=⟨Jp Tryz.prog Z⟩
    have hB9':=hP.B9.step (i3.stepp (L:=[pt b8]) Jg) (Yi n9);refine ZP (Qao (n:=94) (K:=fun ρ' w5=>w5=w4/\(∀ i,i < 52->ρ' i=ρ4 i)/\ρ' 57=.int .i64 (t.Nd - t.Nc+1).toNat/\ρ' 58=.int .i64 0) ?_ hb ?_)
    ·refine Yd (v:=.pointer (some ⟨b9,2,none⟩)) rfl (QB 2 Tryz.underlying91 rfl rfl ⟨0,QJ⟩ ((i1 9 (by omega)).trans r9) rfl) ?_;refine Yd (v:=.int .i64 t.Nd) rfl (Qw QS rfl (Eg hB9'.at 2)) ?_;refine Yd (v:=.pointer (some ⟨b9,1,none⟩)) rfl (QB 1 Tryz.underlying91 rfl rfl ⟨0,QJ⟩ ((i1 9 (by omega)).trans r9) rfl) ?_;refine Yd (v:=.int .i64 t.Nc) rfl (Qw QS rfl (Eg hB9'.at 1)) ?_;refine Yd (v:=.int .i64 (w64 (t.Nd - t.Nc))) rfl (XC rfl rfl) ?_;refine Yd (v:=.int .i64 (w64 (w64 (t.Nd - t.Nc)+1))) rfl (QH rfl rfl) ?_;refine Yd (v:=.int .i64 0) rfl (Qp rfl) ?_;refine Qb ⟨rfl,fun i hi=>(XF (by omega)).trans ((XF (by omega)).trans ((XF (by omega)).trans ((XF (by omega)).trans ((XF (by omega)).trans ((XF (by omega)).trans (XF (by omega))))))),?_,rfl⟩;show Value.int .i64 (w64 (w64 (t.Nd - t.Nc)+1))=_;rw [wi (i:=t.Nd - t.Nc) (by omega) (by omega),wi (by omega) (by omega)];congr 1;omega
    ·rintro ρ5 w5 ⟨rfl,l1,l2,l3⟩;refine Qel (Qox ?_);refine (QFb hP hr (b10:=b10) hc hb k3 (fun ρ6 w6 v8 o1 o2 o3 o4=>⟨ρ6,rfl,hK ρ6 w6 v8 o1 o2 o3 o4⟩) (t.Nd - t.Nc+1).toNat rs [] ⟨[],0,false⟩ hlen (by simp) rfl ρ5 w5 Z orig (.slice none 0 0) (fun i hi=>(l1 i (by omega)).trans (i1 i hi)) ((l1 10 (by omega)).trans i2) l2 (by rw [l3,Int.sub_self]) i3 i4 i5 (SlRd.nil _ _)).stop
 ·rintro g' w' ⟨ρ',rfl,hq⟩;exact hQ .normal _ _ ⟨ρ',rfl,hq⟩
end
end Go.Gw

end
section
set_option maxRecDepth 4096
set_option maxHeartbeats 8000000
set_option linter.unusedVariables false
set_option linter.unusedSectionVars false
namespace Go.Gw
open Go Go.Proofs
attribute [local irreducible] T0 TS TT TP TX TZ Eff Stp WC Quiet gd
noncomputable def Qxw (r20:(Nm×Int)) (x205:(List Int)):((List Nf)×Int)->Option (((List Nf)×Int)⊕((List Nf))):=fun (x544,x552)=>(bif (decide (x552 < (x205.length:Int))) then ( (Ea (idx x205 x552) fun el597=>(Ea (idx r20.1.Nb.Nj x552) fun el603=>(Ea (app x544 ([(Nf.mk el603.Name el597)]:List Nf)) fun zs618=>some (.inl (zs618,w64 (x552+1))) ) ) ) ) else ( some (.inr x544) ))
noncomputable def Qez (p_Listappend:Nb):Option ((List Nf)×Int×Int):=(Ea (Qfd p_Listappend) fun r20=>(bif (!decide (r20.2=0)) then ( some (([]:(List Nf)),0,r20.2) ) else ( (Ea (Qnp (Nm.mk (Nb.mk r20.1.Nb.Nh r20.1.Nb.Nk r20.1.Nb.Nj))) fun r70=>(bif (!decide (r70=0)) then ( some (([]:(List Nf)),0,r70) ) else ( (Ea (α:=((List Int)×Int×Bool)) ( (bif (decide ((r20.1.Nb.Nj.length:Int)=0)) then ( (Ea (JT 4 (Nm.mk (Nb.mk r20.1.Nb.Nh r20.1.Nb.Nk r20.1.Nb.Nj)) [] 0) fun r218=>some (r218.at_,r218.delay,r218.found) ) ) else ( (Ea (idx r20.1.Nb.Nj 0) fun el243=>(Ea (Qbj (Nm.mk (Nb.mk r20.1.Nb.Nh r20.1.Nb.Nk r20.1.Nb.Nj)) el243) fun r285=>some (r285.at_,r285.delay,r285.found) ) ) )) ) fun ((x205,x209,x210):(List Int)×Int×Bool)=>(bif (!x210) then ( some (([]:(List Nf)),0,12) ) else ( (Ea (loop (Qxw r20 x205) (([]:List Nf),0)) fun (x575:(List Nf))=>some (x575,x209,0) ) )) ) )) ) )) )
theorem Qxv {L:List Value} {w:World} (hL:LtL L w) {cs_p_Listappend:List Value} {p_Listappend:Nb} (h_p_Listappend:Rep.rd L w cs_p_Listappend p_Listappend) {r:(List Nf)×Int×Int} (h:Qez p_Listappend=some r):CallsTo Tryz.prog 13 [(.agg cs_p_Listappend.toArray)] w (fun v w'=>Ext w w'/\∃ (v0:Value),(.tuple #[v0,(Iv r.2.1),(Iv r.2.2)])=v/\SlRd L w' v0 r.1):=by
 have hS0:=h_p_Listappend;obtain ⟨v1,v3,v5,h2,h4,h6,rfl⟩:=h_p_Listappend;refine QL (n:=94) (rs:=[.tmp 2,.tmp 3,.tmp 4]) Tryz.func13 rfl rfl rfl rfl rfl<|Qd<|Qh rfl (XB (cs:=[v1,v3,v5]) rfl rfl ?_);intro b11 wd12 hb13 he14 hB15;have e17:=(QN w).trans he14;refine Qe (.slice none 0 0) rfl<|Qe (Iv 0) rfl<|Qe (Iv 0) rfl<|Qb<|Qd<|Qa _ (Q9 (Box.at hB15) JN rfl) ?_;replace h:=Qf h;obtain ⟨r20,hr21,h⟩:=h;refine Qh rfl (Qu Tryz.func33 Qph rfl (QW rfl) (Qnx (hL.chg e17) (hS0.ext he14) hr21) ?_);rintro _ wd22 ⟨he23,cs30,rfl,hrd31⟩;have e33:=e17.trans he23;obtain ⟨v24,v26,v28,h25,h27,h29,rfl⟩:=hrd31;refine Qc (.tuple #[(AgV [v24,v26,v28]),(Iv r20.2)]) rfl<|Qa _ (Xf rfl rfl)<|Qa _ (Xf rfl rfl)<|Qh rfl (Xd Qbf ?_);intro b37 wd38 hb39 he40 hB41;have h47:=h25.step (Qv he40 hb39);have h48:=h27.step (Qv he40 hb39);have h49:=h29.step (Qv he40 hb39);refine Qh rfl (Q2 (vs:=[v24,v26,v28]) J1 rfl rfl rfl rfl hB41 rfl (Qj h47.one1 (Qj h48.one1 (Qj h49.one1 QE))) rfl ?_);intro wd53 hc54 hB55;have h60:=h47.step (Ql hc54 Qn);have h61:=h48.step (Ql hc54 Qn);have h62:=h49.step (Ql hc54 Qn);have e63:=QZ (e33.trans he40) hc54 (Xi e33 hb39);refine Qe (Iv r20.2) rfl<|Qb<|Qm fun K64 hK64=>Qd<|Qc (Iv r20.2) rfl<|Qa _ (XJ rfl rfl)<|Qb<|Qy (b:=(!decide (r20.2=0))) rfl (fun hb66=>?_) (fun hb66=>?_)
 ·clear hK64;replace h:=Qr hb66 h;refine Qd<|Qc (Iv r20.2) rfl<|Qe (.slice none 0 0) rfl<|Qe (Iv 0) rfl<|Qe (Iv r20.2) rfl<|Qb<|Qt ?_;replace h:=Qg h;subst h;exact ⟨[(.slice none 0 0),(Iv 0),(Iv r20.2)],⟨rfl,rfl,rfl,trivial⟩,e63,(.slice none 0 0),rfl,(SlRd.nil _ _)⟩
 ·replace h:=QA hb66 h;refine Qx<|hK64 _ _<|Qm fun K68 hK68=>Qd<|Qa _ (Q9 (Box.at hB55) YV rfl) ?_;replace h:=Qf h;obtain ⟨r70,hr71,h⟩:=h;refine Qh rfl (Qu Tryz.func34 QCu rfl (QW rfl) (@Qzb _ [] _ (Eh _) [v24,v26,v28] (Nm.mk (Nb.mk r20.1.Nb.Nh r20.1.Nb.Nk r20.1.Nb.Nj)) ⟨v24,v26,v28,(h60.sub (fun _ h=>by cases h)),(h61.sub (fun _ h=>by cases h)),(h62.sub (fun _ h=>by cases h)),rfl⟩ r70 hr71) ?_);rintro _ wd72 ⟨he73,rfl⟩;have e74:=e63.trans he73;refine Qe (Iv r70) rfl<|Qb<|Qd<|Qc (Iv r70) rfl<|Qa _ (XJ rfl rfl)<|Qb<|Qy (b:=(!decide (r70=0))) rfl (fun hb76=>?_) (fun hb76=>?_)
  ·clear hK64 hK68;replace h:=Qr hb76 h;refine Qd<|Qc (Iv r70) rfl<|Qe (.slice none 0 0) rfl<|Qe (Iv 0) rfl<|Qe (Iv r70) rfl<|Qb<|Qt ?_;replace h:=Qg h;subst h;exact ⟨[(.slice none 0 0),(Iv 0),(Iv r70)],⟨rfl,rfl,rfl,trivial⟩,e74,(.slice none 0 0),rfl,(SlRd.nil _ _)⟩
  ·clear hK64;replace h:=QA hb76 h;refine Qx<|hK68 _ _<|Qd<|Qh rfl (Xd J6 ?_);intro b79 wd80 hb81 he82 hB83;have hn85:=Q1 (hB55.ext he73) hb81;have hbf86:=Xi e74 hb81;have h90:=(h60.ext he73).step (Qv he82 hb81);have h91:=(h61.ext he73).step (Qv he82 hb81);have h92:=(h62.ext he73).step (Qv he82 hb81);have e93:=he73.trans he82;have e94:=e74.trans he82;refine Qb<|Qm fun K96 hK96=>Qd<|Qa _ (QB 0 Tryz.underlying76 rfl rfl ⟨2,Zl⟩ rfl rfl)<|Qa _ (QB 2 Tryz.underlying42 rfl rfl ⟨0,ZZ⟩ rfl rfl)<|Qa _ (Qw ZW rfl (Eg (Box.at (hB55.ext e93)) 2))<|Qa _ (Q4 rfl Tryz.underlying40 h92 rfl)<|Qa _ (Xj rfl rfl)<|Qb ?_;replace h:=Qf h;obtain ⟨o213,ho214,hn215⟩:=h;refine Q8 (fun (ρ:Env) (wd196:World)=>∃ (x205:(List Int)) (x209:Int) (x210:Bool) (v206:Value),(x205,x209,x210)=o213/\ρ 5=(pt b37)/\ρ 8=(pt b79)/\SlRd ((pt b79)::(pt b37)::L) wd196 v24 r20.1.Nb.Nh/\SlRd ((pt b79)::(pt b37)::L) wd196 v26 r20.1.Nb.Nk/\SlRd ((pt b79)::(pt b37)::L) wd196 v28 r20.1.Nb.Nj/\SlRd ((pt b79)::(pt b37)::L) wd196 v206 x205/\Box wd196 b37 [v24,v26,v28] 76/\Box wd196 b79 [v206,(Iv x209),(.bool x210)] 96/\Ext w wd196) ?_ ?_
   ·clear hK68 hK96;intro K216 hK216;replace h:=ho214;clear ho214;refine Qy (b:=(decide ((r20.1.Nb.Nj.length:Int)=0))) rfl (fun hb217=>?_) (fun hb217=>?_)
    ·replace h:=Qr hb217 h;refine QF<|Qa _ (Q9 (Box.at (hB55.ext e93)) YV rfl) ?_;replace h:=Qf h;obtain ⟨r218,hr219,h⟩:=h;refine Qh rfl (Qu Tryz.func35 Qbs rfl (Yr rfl rfl rfl) (Qnu 4 ((pt b79)::(pt b37)::L) _ (QU (QU (hL.chg e94) (hB55.ext e93)) hB83) [v24,v26,v28] (Nm.mk (Nb.mk r20.1.Nb.Nh r20.1.Nb.Nk r20.1.Nb.Nj)) ⟨v24,v26,v28,h90,h91,h92,rfl⟩ (.slice none 0 0) [] (SlRd.nil _ _) 0 r218 hr219) ?_);rintro _ wd220 ⟨he221,cs224,rfl,hrd225⟩;obtain ⟨v222,h223,rfl⟩:=hrd225;refine Qh rfl (Q2 (vs:=[v222,(Iv r218.delay),(.bool r218.found)]) Zm rfl rfl rfl rfl (hB83.ext he221) rfl (Qj h223.one1 (Qj rfl (Qj rfl QE))) rfl ?_);intro wd229 hc230 hB231;refine Qb ?_;replace h:=Qg h;subst h;refine hK216 _ _ ?_;exact ⟨r218.at_,r218.delay,r218.found,v222,rfl,rfl,rfl,((h90.ext he221).step (Ql hc230 Qn)),((h91.ext he221).step (Ql hc230 Qn)),((h92.ext he221).step (Ql hc230 Qn)),(h223.step (Ql hc230 Qn)),((hB55.ext (e93.trans he221)).chg hc230 (QG hn85)),hB231,(QZ (e94.trans he221) hc230 hbf86)⟩
    ·replace h:=QA hb217 h;refine Qd<|Qa _ (QB 0 Tryz.underlying76 rfl rfl ⟨2,Zl⟩ rfl rfl)<|Qa _ (QB 2 Tryz.underlying42 rfl rfl ⟨0,ZZ⟩ rfl rfl)<|Qa _ (Qw ZW rfl (Eg (Box.at (hB55.ext e93)) 2)) ?_;replace h:=Qf h;obtain ⟨el243,hel244,h⟩:=h;have hq:=SlRd.at h92 hel244;obtain ⟨cs247,hat248,hrd249⟩:=hq;obtain ⟨v245,h246,rfl⟩:=hrd249;refine Qa _ (Xb Tryz.underlying40 ZA h92 hel244 rfl rfl)<|Qa _ (XM (cs:=[(.string el243.Name),(Iv el243.Nc),(Iv el243.Nd),v245]) Jt rfl hat248)<|Qh rfl (Xd Qld ?_);intro b252 wd253 hb254 he255 hB256;have hn259:=Q1 hB83 hb254;have h267:=h246.step (Qv he255 hb254);refine Qh rfl (Q2 (vs:=[(.string el243.Name),(Iv el243.Nc),(Iv el243.Nd),v245]) ZA rfl rfl rfl rfl hB256 rfl (Qj rfl (Qj rfl (Qj rfl (Qj h267.one1 QE)))) rfl ?_);intro wd271 hc272 hB273;have h278:=(h90.step (Qv he255 hb254)).step (Ql hc272 Qn);have h279:=(h91.step (Qv he255 hb254)).step (Ql hc272 Qn);have h280:=(h92.step (Qv he255 hb254)).step (Ql hc272 Qn);have h281:=(hB55.ext (e93.trans he255)).chg hc272 (QG (Q1 (hB55.ext e93) hb254));have h282:=(hB83.ext he255).chg hc272 (QG hn259);have e284:=QZ (e94.trans he255) hc272 (Xi e94 hb254);refine Qb ?_;replace h:=Qf h;obtain ⟨r285,hr286,h⟩:=h;refine QEs (L:=((pt b252)::(pt b79)::(pt b37)::L)) (b5:=b37) (b8:=b79) (b9:=b252) (net:=(Nm.mk (Nb.mk r20.1.Nb.Nh r20.1.Nb.Nk r20.1.Nb.Nj))) (t:=el243) (v1:=v24) (v3:=v26) (v5:=v28) (v:=v245) (QU (QU (QU (hL.chg e284) h281) h282) hB273) Xa hn85.symm hn259 rfl rfl rfl h281 hB273 h282 ⟨v24,v26,v28,h278,h279,h280,rfl⟩ (h267.step (Ql hc272 Qn)) hr286 ?_;intro ρ wd287 v288 hp289 hc290 h291 hB292;have hs293:ρ 0=(AgV [v1,v3,v5]):=(hp289 0 (by decide)).trans rfl;have hs294:ρ 1=(pt b11):=(hp289 1 (by decide)).trans rfl;have hs295:ρ 2=(.slice none 0 0):=(hp289 2 (by decide)).trans rfl;have hs296:ρ 3=(Iv 0):=(hp289 3 (by decide)).trans rfl;have hs297:ρ 4=(Iv 0):=(hp289 4 (by decide)).trans rfl;have hs298:ρ 5=(pt b37):=(hp289 5 (by decide)).trans rfl;have hs299:ρ 6=(Iv r20.2):=(hp289 6 (by decide)).trans rfl;have hs300:ρ 7=(Iv r70):=(hp289 7 (by decide)).trans rfl;have hs301:ρ 8=(pt b79):=(hp289 8 (by decide)).trans rfl;have hs302:ρ 9=(pt b252):=(hp289 9 (by decide)).trans rfl;replace h:=Qg h;subst h;refine hK216 _ _ ?_;exact ⟨r285.at_,r285.delay,r285.found,v288,rfl,hs298,hs301,((h278.step (Ql hc290 Xa)).sub Qgh),((h279.step (Ql hc290 Xa)).sub Qgh),((h280.step (Ql hc290 Xa)).sub Qgh),(h291.sub Qgh),(h281.chg hc290 (QG hn85)),hB292,(QZ e284 hc290 hbf86)⟩
   ·clear hK68;rintro ρ wd196 ⟨x205,x209,x210,v206,rfl,hs198,hs199,h200,h201,h202,h208,hB204,hB212,e197⟩;replace h:=hn215;refine hK96 _ _<|Qm fun K315 hK315=>Qd<|Qa _ (QB 2 Tryz.underlying96 rfl rfl ⟨0,sz4⟩ hs199 rfl)<|Qa _ (Qw sc4 rfl (Eg (Box.at hB212) 2))<|Qa _ (YE rfl)<|Qb<|Qy (b:=(!x210)) rfl (fun hb317=>?_) (fun hb317=>?_)
    ·clear hK315 hK96;replace h:=Qr hb317 h;refine Qd<|Qe (.slice none 0 0) rfl<|Qe (Iv 0) rfl<|Qe (Iv 12) rfl<|Qb<|Qt ?_;replace h:=Qg h;subst h;exact ⟨[(.slice none 0 0),(Iv 0),(Iv 12)],⟨rfl,rfl,rfl,trivial⟩,e197,(.slice none 0 0),rfl,(SlRd.nil _ _)⟩
    ·clear hK96;replace h:=QA hb317 h;refine Qx<|hK315 _ _<|QK (.slice none 0 0) rfl<|Qm fun K320 hK320=>Qd<|Qa _ (QB 0 Tryz.underlying96 rfl rfl ⟨0,Zf⟩ hs199 rfl)<|Qa _ (Qw Zx rfl (Box.at hB212))<|Qa _ (Q4 rfl Tryz.underlying35 h208 rfl)<|Qc (Iv 0) rfl<|Qb ?_;have h568:Own 23 ((.slice none 0 0)::(pt b79)::(pt b37)::L) wd196 (.slice none 0 0) ([]:List Nf):=Own.nil _ _ _;replace h:=Qf h;obtain ⟨o584,hl585,hn586⟩:=h;refine Q8 (fun (ρ:Env) (wd570:World)=>∃ (x575:(List Nf)) (v574:Value),x575=o584/\ρ 8=(pt b79)/\ρ 13=v574/\SlRd (v574::(pt b79)::L) wd570 v206 x205/\Box wd570 b79 [v206,(Iv x209),(.bool x210)] 96/\Own 23 (v574::(pt b79)::L) wd570 v574 x575/\(∀ b,Qs v574=some b->w.heap.size<=b)/\(Qs v574≠some b79)/\Ext w wd570) ?_ ?_
     ·clear hK315 hK320;intro K590 hK590;refine QM<|Xp (fun sv ρ wd538=>∃ (x544:(List Nf)) (x552:Int) (v543:Value),(x544,x552)=sv/\ρ 5=(pt b37)/\ρ 8=(pt b79)/\ρ 13=v543/\ρ 71=v206/\ρ 72=(Iv (x205.length:Int))/\ρ 73=(Iv x552)/\SlRd (v543::(pt b79)::(pt b37)::L) wd538 v206 x205/\SlRd (v543::(pt b79)::(pt b37)::L) wd538 v24 r20.1.Nb.Nh/\SlRd (v543::(pt b79)::(pt b37)::L) wd538 v26 r20.1.Nb.Nk/\SlRd (v543::(pt b79)::(pt b37)::L) wd538 v28 r20.1.Nb.Nj/\Box wd538 b37 [v24,v26,v28] 76/\Box wd538 b79 [v206,(Iv x209),(.bool x210)] 96/\Own 23 (v543::(pt b79)::(pt b37)::L) wd538 v543 x544/\(∀ b,Qs v543=some b->w.heap.size<=b)/\(Qs v543≠some b37)/\(Qs v543≠some b79)/\Ext w wd538) hl585 ⟨([]:List Nf),0,(.slice none 0 0),rfl,hs198,hs199,rfl,rfl,rfl,rfl,(h208.step (XS _)),(h200.step (XS _)),(h201.step (XS _)),(h202.step (XS _)),hB204,hB212,h568,(fun b h=>ZD b h),(fun h=>by cases h),(fun h=>by cases h),e197⟩ ?_;rintro _ ρ wd538 ⟨x544,x552,v543,rfl,hs540,hs541,hs548,hs550,hs551,hs553,h549,h554,h555,h556,hB558,hB560,h546,hf547,hn561,hn562,e539⟩ x587 h hx588 K589 hK589;refine Qd<|Qa _ (Q5 hs553 hs551)<|Qb<|Qm fun K593 hK593=>Qy (b:=(decide (x552 < (x205.length:Int)))) rfl (fun hb594=>?_) (fun hb594=>?_)
      ·clear hK590;replace h:=Qr hb594 h;refine Qx<|hK593 _ _<|Qm fun K595 hK595=>QM<|Qd<|Qc (Iv x552) hs553 ?_;replace h:=Qf h;obtain ⟨el597,hel598,h⟩:=h;have hq:=SlRd.at h549 hel598;obtain ⟨cs599,hat600,hrd601⟩:=hq;have hrd601:cs599=[(Iv el597)]:=hrd601;subst hrd601;refine Qa _ (Xb Tryz.underlying35 QJ h549 hel598 hs550 hs553)<|Qa _ (Qw QS rfl hat600)<|Qe (Iv x552) rfl<|Qe (Iv el597) rfl<|Qb<|QF<|Qc v543 hs548<|Qa _ (QB 0 Tryz.underlying76 rfl rfl ⟨2,Zl⟩ hs540 rfl)<|Qa _ (QB 2 Tryz.underlying42 rfl rfl ⟨0,ZZ⟩ rfl rfl)<|Qa _ (Qw ZW rfl (Eg (Box.at hB558) 2))<|Qc (Iv x552) rfl ?_;replace h:=Qf h;obtain ⟨el603,hel604,h⟩:=h;have hq:=SlRd.at h556 hel604;obtain ⟨cs607,hat608,hrd609⟩:=hq;obtain ⟨v605,h606,rfl⟩:=hrd609;refine Qa _ (Xb Tryz.underlying40 ZA h556 hel604 rfl rfl)<|Qa _ (QB 0 Tryz.underlying91 rfl rfl ⟨0,X7⟩ rfl rfl)<|Qa _ (Qw Ys rfl hat608)<|Qc (Iv el597) rfl<|Qa _ (Xq (cells:=[(.string el603.Name),(Iv el597)]) Zi (Qz rfl rfl (Qz rfl rfl QP)) rfl)<|Qh rfl (Xm (xs:=([(Nf.mk el603.Name el597)]:List Nf)) (cells:=[(.string el603.Name),(Iv el597)]) Tryz.underlying34 Qcq rfl (Qz rfl rfl QP) rfl (Eb (cs:=[(.string el603.Name),(Iv el597)]) rfl Ee) rfl (Xr (QU (QU (hL.chg e539) hB558) hB560) h546) ?_);intro b615 wd612 he613 h614;have e616:=e539.trans he613;replace h:=Qf h;obtain ⟨zs618,hz619,h⟩:=h;refine Qh rfl (YF Tryz.underlying34 Qcq rfl rfl rfl rfl (h546.ext he613) h614 hz619 ?_);intro v620 wd621 hc622 hbl623 h624;have hn626:Qs v620≠some b37:=YB hbl623 hn561 (hB558.ext he613);have hn627:Qs v620≠some b79:=YB hbl623 hn562 (hB560.ext he613);refine Qe v620 rfl<|Qb<|hK595 _ _<|QF<|Qa _ (QH hs553 rfl)<|Qc (Iv (w64 (x552+1))) rfl<|Qb ?_;replace h:=Qg h;subst h;refine hK589 _ _ _ rfl ?_;exact ⟨zs618,w64 (x552+1),v620,rfl,hs540,hs541,rfl,hs550,hs551,rfl,((h549.ext he613).step (Ei hc622 hbl623)),((h554.ext he613).step (Ei hc622 hbl623)),((h555.ext he613).step (Ei hc622 hbl623)),((h556.ext he613).step (Ei hc622 hbl623)),((hB558.ext he613).chg hc622 (X9 hn561)),((hB560.ext he613).chg hc622 (X9 hn562)),h624,(YH hbl623 hf547 e616.size),hn626,hn627,(Yp e616 hc622 hf547)⟩
      ·clear hK589 hK593;replace h:=QA hb594 h;refine Xl ?_;replace h:=Qg h;subst h;have ho:=hx588 _ rfl;subst ho;refine hK590 _ _ ?_;exact ⟨x544,v543,rfl,hs541,hs548,(h549.sub (Q6 Qn (Q6 Xa (QQ YJ)))),hB560,(h546.sub (Q6 Qn (Q6 Xa (QQ YJ)))),hf547,hn562,e539⟩
     ·clear hK315;rintro ρ wd570 ⟨x575,v574,rfl,hs572,hs579,h580,hB582,h577,hf578,hn583,e571⟩;replace h:=hn586;refine hK320 _ _<|Qm fun K639 hK639=>XO XL (.p 0 (.p 1 (.p 3 (.q 2 (.p 4 (.p 5 .done)))))) (by kernel_rfl) rfl ?_;intro wd640 he641;refine Qk (v:=v574) rfl rfl (fun w'=>(Qp hs579))<|Qk rfl rfl (fun w'=>(QB 1 Tryz.underlying96 rfl rfl ⟨0,QJ⟩ hs572 rfl))<|Qk (v:=v574) rfl rfl (fun w'=>(XR rfl))<|Xg rfl rfl (fun w' hS=>(Qw QS rfl (Eg (Box.at (hB582.ext (he641.trans hS))) 1)))<|Qk (v:=(Iv x209)) rfl rfl (fun w'=>(XR rfl))<|Qk (v:=(Iv 0)) rfl rfl (fun w'=>(XR rfl))<|Xt<|hK639 _ _<|Qt ?_;replace h:=Qg h;subst h;exact ⟨[v574,(Iv x209),(Iv 0)],⟨rfl,rfl,rfl,trivial⟩,(e571.trans he641),v574,rfl,((h577.ext he641).rdL YJ hL hf578)⟩

noncomputable def Qfs:Option Bool:=(Ea (Qbr 3000) fun r10=>(Ea (Qmz r10 ([(Nf.mk (ByteArray.mk #[120]) 0)]:List Nf) 0) fun r26=>(Ea (Qbr 2900) fun r36=>(Ea (Qez r36) fun r54=>(Ea (Qbr 3000) fun r66=>(Ea (Qmv r66 ([(Nf.mk (ByteArray.mk #[120]) 0)]:List Nf) (Range.mk 0 1)) fun r86=>(Ea (Qbr 2900) fun r135=>(Ea (Qmy r135 ([(Nf.mk (ByteArray.mk #[120]) 0),(Nf.mk (ByteArray.mk #[121]) 0)]:List Nf)) fun r158=>(Ea (Qmx (NC.mk ([1,2,3]:List Int) ([6,12]:List Int))) fun r188=>(Ea (bif (decide (r26.2=0)) then Qhl r26.1 ([1320000000,880000000]:List Int) else some default) fun r215=>(Ea (bif ((((decide (r26.2=0))&&r215)&&(decide (r54.2.2=0)))&&(decide (r54.2.1=1))) then Qqk r54.1 ([(Nf.mk (ByteArray.mk #[120]) 0),(Nf.mk (ByteArray.mk #[121]) 1)]:List Nf) else some default) fun r242=>(Ea (bif ((((((((decide (r26.2=0))&&r215)&&(decide (r54.2.2=0)))&&(decide (r54.2.1=1)))&&r242)&&(decide (r86.2=0)))&&(decide ((Nl.mk r86.1.Fed r86.1.Used r86.1.Nt r86.1.Lost r86.1.Back r86.1.Ns)=(Nl.mk 2200000000 2000000000 500000000 200000000 500000000 0))))&&(decide (r158.2=0))) then Qhl r158.1 ([0,1]:List Int) else some default) fun r271=>(Ea (bif ((((((((((decide (r26.2=0))&&r215)&&(decide (r54.2.2=0)))&&(decide (r54.2.1=1)))&&r242)&&(decide (r86.2=0)))&&(decide ((Nl.mk r86.1.Fed r86.1.Used r86.1.Nt r86.1.Lost r86.1.Back r86.1.Ns)=(Nl.mk 2200000000 2000000000 500000000 200000000 500000000 0))))&&(decide (r158.2=0)))&&r271)&&(decide (r188.2=0))) then Qei 11 else some default) fun r285=>(Ea (bif ((((((((((decide (r26.2=0))&&r215)&&(decide (r54.2.2=0)))&&(decide (r54.2.1=1)))&&r242)&&(decide (r86.2=0)))&&(decide ((Nl.mk r86.1.Fed r86.1.Used r86.1.Nt r86.1.Lost r86.1.Back r86.1.Ns)=(Nl.mk 2200000000 2000000000 500000000 200000000 500000000 0))))&&(decide (r158.2=0)))&&r271)&&(decide (r188.2=0))) then Qei 5 else some default) fun r302=>(Ea (bif ((((((((((decide (r26.2=0))&&r215)&&(decide (r54.2.2=0)))&&(decide (r54.2.1=1)))&&r242)&&(decide (r86.2=0)))&&(decide ((Nl.mk r86.1.Fed r86.1.Used r86.1.Nt r86.1.Lost r86.1.Back r86.1.Ns)=(Nl.mk 2200000000 2000000000 500000000 200000000 500000000 0))))&&(decide (r158.2=0)))&&r271)&&(decide (r188.2=0))) then Qei (-7) else some default) fun r319=>(Ea (bif ((((((((((decide (r26.2=0))&&r215)&&(decide (r54.2.2=0)))&&(decide (r54.2.1=1)))&&r242)&&(decide (r86.2=0)))&&(decide ((Nl.mk r86.1.Fed r86.1.Used r86.1.Nt r86.1.Lost r86.1.Back r86.1.Ns)=(Nl.mk 2200000000 2000000000 500000000 200000000 500000000 0))))&&(decide (r158.2=0)))&&r271)&&(decide (r188.2=0))) then Qlt r188.1 ([r285,r302,r319]:List Frac) else some default) fun r353=>some (((((((((((decide (r26.2=0))&&r215)&&(decide (r54.2.2=0)))&&(decide (r54.2.1=1)))&&r242)&&(decide (r86.2=0)))&&(decide ((Nl.mk r86.1.Fed r86.1.Used r86.1.Nt r86.1.Lost r86.1.Back r86.1.Ns)=(Nl.mk 2200000000 2000000000 500000000 200000000 500000000 0))))&&(decide (r158.2=0)))&&r271)&&(decide (r188.2=0)))&&r353) ) ) ) ) ) ) ) ) ) ) ) ) ) ) ) )
theorem QBc {L:List Value} {w:World} (hL:LtL L w) {r:Bool} (h:Qfs=some r):CallsTo Tryz.prog 4 [] w (fun v w'=>Ext w w'/\(.bool r)=v):=by
 have e0:=QN w;refine QL (n:=101) (rs:=[.tmp 0]) Tryz.func4 rfl rfl rfl rfl rfl<|QK (.bool false) rfl<|Qd<|Qa _ (Xq (cells:=[(.string (ByteArray.mk #[120])),(Iv 0)]) Zi (Qz rfl rfl QP) rfl)<|Qh rfl (Xm (xs:=([(Nf.mk (ByteArray.mk #[120]) 0)]:List Nf)) (cells:=[(.string (ByteArray.mk #[120])),(Iv 0)]) Tryz.underlying34 Qcq rfl (Qz rfl rfl QP) rfl (Eb (cs:=[(.string (ByteArray.mk #[120])),(Iv 0)]) rfl Ee) rfl (hL.chg e0) ?_);intro b6 wd3 he4 h5;have e7:=e0.trans he4;refine Qe (.slice (some ⟨b6,0,none⟩) 1 1) rfl<|Qb<|Qd ?_;replace h:=Qf h;obtain ⟨r10,hr11,h⟩:=h;refine Qh rfl (Qu Tryz.func12 Qfv rfl (QW rfl) (Qfr (hL.chg e7) hr11) ?_);rintro _ wd12 ⟨he13,cs20,rfl,hrd21⟩;have e22:=e7.trans he13;obtain ⟨v14,v16,v18,h15,h17,h19,rfl⟩:=hrd21;refine Qc (.slice (some ⟨b6,0,none⟩) 1 1) rfl ?_;replace h:=Qf h;obtain ⟨r26,hr27,h⟩:=h;refine Qh rfl (Qu Tryz.func11 QCd rfl (Yr rfl rfl rfl) (@Qyj _ L _ (hL.chg e22) [v14,v16,v18] r10 ⟨v14,v16,v18,h15,h17,h19,rfl⟩ (.slice (some ⟨b6,0,none⟩) 1 1) ([(Nf.mk (ByteArray.mk #[120]) 0)]:List Nf) (h5.ext he13) 0 r26 hr27) ?_);rintro _ wd28 ⟨he29,v30,rfl,h31⟩;have e33:=e22.trans he29;refine Qc (.tuple #[v30,(Iv r26.2)]) rfl<|Qa _ (Xf rfl rfl)<|Qa _ (Xf rfl rfl)<|Qe v30 rfl<|Qe (Iv r26.2) rfl<|Qb<|Qd ?_;replace h:=Qf h;obtain ⟨r36,hr37,h⟩:=h;refine Qh rfl (Qu Tryz.func12 Qfv rfl (QW rfl) (Qfr (hL.chg e33) hr37) ?_);rintro _ wd38 ⟨he39,cs46,rfl,hrd47⟩;have e50:=e33.trans he39;obtain ⟨v40,v42,v44,h41,h43,h45,rfl⟩:=hrd47;replace h:=Qf h;obtain ⟨r54,hr55,h⟩:=h;refine Qh rfl (Qu Tryz.func13 QCi rfl (QW rfl) (@Qxv L _ (hL.chg e50) [v40,v42,v44] r36 ⟨v40,v42,v44,h41,h43,h45,rfl⟩ r54 hr55) ?_);rintro _ wd56 ⟨he57,v58,rfl,h59⟩;have e63:=e50.trans he57;refine Qc (.tuple #[v58,(Iv r54.2.1),(Iv r54.2.2)]) rfl<|Qa _ (Xf rfl rfl)<|Qa _ (Xf rfl rfl)<|Qa _ (Xf rfl rfl)<|Qe v58 rfl<|Qe (Iv r54.2.1) rfl<|Qe (Iv r54.2.2) rfl<|Qb<|Qd ?_;replace h:=Qf h;obtain ⟨r66,hr67,h⟩:=h;refine Qh rfl (Qu Tryz.func12 Qfv rfl (QW rfl) (Qfr (hL.chg e63) hr67) ?_);rintro _ wd68 ⟨he69,cs76,rfl,hrd77⟩;have hS0:=hrd77;obtain ⟨v70,v72,v74,h71,h73,h75,rfl⟩:=hrd77;refine Qc (.slice (some ⟨b6,0,none⟩) 1 1) rfl<|Qa _ (Xq (cells:=[(Iv 0),(Iv 1)]) Qum (Qz rfl rfl QP) rfl) ?_;replace h:=Qf h;obtain ⟨r86,hr87,h⟩:=h;refine Qh rfl (Qu Tryz.func14 QCj rfl (Yr rfl rfl rfl) (@Qxx _ [] _ (Eh _) [v70,v72,v74] r66 (hS0.sub (fun _ h=>by cases h)) (.slice (some ⟨b6,0,none⟩) 1 1) ([(Nf.mk (ByteArray.mk #[120]) 0)]:List Nf) ((h5.ext ((((he13.trans he29).trans he39).trans he57).trans he69)).sub (fun _ h=>by cases h)) [(Iv 0),(Iv 1)] (Range.mk 0 1) rfl r86 hr87) ?_);rintro _ wd88 ⟨he89,cs90,rfl,hrd91⟩;have e97:=(e63.trans he69).trans he89;have hrd91:cs90=[(Iv r86.1.Fed),(Iv r86.1.Used),(Iv r86.1.Nt),(Iv r86.1.Lost),(Iv r86.1.Back),(Iv r86.1.Ns)]:=hrd91;subst hrd91;refine Qc (.tuple #[(AgV [(Iv r86.1.Fed),(Iv r86.1.Used),(Iv r86.1.Nt),(Iv r86.1.Lost),(Iv r86.1.Back),(Iv r86.1.Ns)]),(Iv r86.2)]) rfl<|Qa _ (Xf rfl rfl)<|Qa _ (Xf rfl rfl)<|Qh rfl (Xd Qlb ?_);intro b98 wd99 hb100 he101 hB102;refine Qh rfl (Q2 (vs:=[(Iv r86.1.Fed),(Iv r86.1.Used),(Iv r86.1.Nt),(Iv r86.1.Lost),(Iv r86.1.Back),(Iv r86.1.Ns)]) Qkl rfl rfl rfl rfl hB102 rfl (Qj rfl (Qj rfl (Qj rfl (Qj rfl (Qj rfl (Qj rfl QE)))))) rfl ?_);intro wd118 hc119 hB120;have e133:=QZ (e97.trans he101) hc119 (Xi e97 hb100);refine Qe (Iv r86.2) rfl<|Qb<|Qd ?_;replace h:=Qf h;obtain ⟨r135,hr136,h⟩:=h;refine Qh rfl (Qu Tryz.func12 Qfv rfl (QW rfl) (Qfr (QU (hL.chg e133) hB120) hr136) ?_);rintro _ wd137 ⟨he138,cs145,rfl,hrd146⟩;have e147:=e133.trans he138;have hS1:=hrd146;obtain ⟨v139,v141,v143,h140,h142,h144,rfl⟩:=hrd146;refine Qa _ (Xq (cells:=[(.string (ByteArray.mk #[120])),(Iv 0)]) Zi (Qz rfl rfl QP) rfl)<|Qa _ (Xq (cells:=[(.string (ByteArray.mk #[121])),(Iv 0)]) Zi (Qz rfl rfl QP) rfl)<|Qh rfl (Xm (xs:=([(Nf.mk (ByteArray.mk #[120]) 0),(Nf.mk (ByteArray.mk #[121]) 0)]:List Nf)) (cells:=[(.string (ByteArray.mk #[120])),(Iv 0),(.string (ByteArray.mk #[121])),(Iv 0)]) Tryz.underlying34 Qcq rfl (Qz rfl rfl (Qz rfl rfl QP)) rfl (Eb (cs:=[(.string (ByteArray.mk #[120])),(Iv 0)]) rfl (Eb (cs:=[(.string (ByteArray.mk #[121])),(Iv 0)]) rfl Ee)) rfl (QU (hL.chg e147) (hB120.ext he138)) ?_);intro b154 wd151 he152 h153;have e155:=he138.trans he152;have e156:=e147.trans he152;replace h:=Qf h;obtain ⟨r158,hr159,h⟩:=h;refine Qh rfl (Qu Tryz.func15 QCk rfl (QR rfl rfl) (Qyi (QU (hL.chg e156) (hB120.ext e155)) (hS1.ext he152) h153 hr159) ?_);rintro _ wd160 ⟨he161,v162,rfl,h163⟩;have e164:=e155.trans he161;have e166:=e156.trans he161;refine Qc (.tuple #[v162,(Iv r158.2)]) rfl<|Qa _ (Xf rfl rfl)<|Qa _ (Xf rfl rfl)<|Qe v162 rfl<|Qe (Iv r158.2) rfl<|Qb<|Qd<|Qh rfl (Xm (xs:=([1,2,3]:List Int)) (cells:=[(Iv 1),(Iv 2),(Iv 3)]) Tryz.underlying35 YG rfl (Qz rfl rfl (Qz rfl rfl (Qz rfl rfl QP))) rfl (Eb (cs:=[(Iv 1)]) rfl (Eb (cs:=[(Iv 2)]) rfl (Eb (cs:=[(Iv 3)]) rfl Ee))) rfl (QU (hL.chg e166) (hB120.ext e164)) ?_);intro b172 wd169 he170 h171;have e173:=e164.trans he170;have e176:=e166.trans he170;refine Qh rfl (Xm (xs:=([6,12]:List Int)) (cells:=[(Iv 6),(Iv 12)]) Tryz.underlying35 YG rfl (Qz rfl rfl (Qz rfl rfl QP)) rfl (Eb (cs:=[(Iv 6)]) rfl (Eb (cs:=[(Iv 12)]) rfl Ee)) rfl (QU (hL.chg e176) (hB120.ext e173)) ?_);intro b181 wd178 he179 h180;have e182:=e173.trans he179;have e186:=e176.trans he179;refine Qa _ (Xq (cells:=[(.slice (some ⟨b172,0,none⟩) 3 3),(.slice (some ⟨b181,0,none⟩) 2 2)]) Qun (Qz rfl (Z6 h171.one1) (Qz rfl (Z6 h180.one1) QP)) rfl) ?_;replace h:=Qf h;obtain ⟨r188,hr189,h⟩:=h;refine Qh rfl (Qu Tryz.func16 QCl rfl (QW rfl) (@Qyh _ ((pt b98)::L) _ (QU (hL.chg e186) (hB120.ext e182)) [(.slice (some ⟨b172,0,none⟩) 3 3),(.slice (some ⟨b181,0,none⟩) 2 2)] (NC.mk ([1,2,3]:List Int) ([6,12]:List Int)) ⟨(.slice (some ⟨b172,0,none⟩) 3 3),(.slice (some ⟨b181,0,none⟩) 2 2),(h171.ext he179),h180,rfl⟩ r188 hr189) ?_);rintro _ wd190 ⟨he191,v192,rfl,h193⟩;have e194:=e182.trans he191;have e199:=e186.trans he191;refine Qc (.tuple #[v192,(Iv r188.2)]) rfl<|Qa _ (Xf rfl rfl)<|Qa _ (Xf rfl rfl)<|Qe v192 rfl<|Qe (Iv r188.2) rfl<|Qb<|Qd<|Qc (Iv r26.2) rfl<|Qa _ (Xj rfl rfl)<|Qc (.bool (decide (r26.2=0))) rfl<|Qq (v:=v30) (decide (r26.2=0)) (QC rfl rfl rfl rfl) (fun hg=>(Qp rfl))<|Qdx (fun v w'=>SlRd ((pt b98)::L) w' v ([1320000000,880000000]:List Int)) (decide (r26.2=0)) (QC rfl rfl rfl rfl) (fun hg=>Xm (xs:=([1320000000,880000000]:List Int)) (cells:=[(Iv 1320000000),(Iv 880000000)]) Tryz.underlying35 YG rfl (Qz rfl rfl (Qz rfl rfl QP)) rfl (Eb (cs:=[(Iv 1320000000)]) rfl (Eb (cs:=[(Iv 880000000)]) rfl Ee)) rfl (QU (hL.chg e199) (hB120.ext e194)) (fun _ _ he h1=>⟨he,h1⟩)) ?_;intro v202 wd203 he204 h205;have e206:=e194.trans he204;replace h:=Qf h;obtain ⟨r215,hr216,h⟩:=h;refine Y1 (decide (r26.2=0)) (.bool r215) (QC rfl rfl rfl rfl) (fun hg=>Qu Tryz.func17 Qpd rfl (QR (Qi hg) (Qi hg)) (Qlu (Eh _) (((((h31.ext (((he39.trans he57).trans he69).trans he89)).step (Qv he101 hb100)).step (Ql hc119 Qn)).ext e206).sub (fun _ h=>by cases h)) ((h205 hg).sub (fun _ h=>by cases h)) (Qr hg hr216)) (by rintro _ wd217 ⟨he218,rfl⟩;exact ⟨rfl,he218⟩)) ?_;intro wd217 he218;have e219:=e206.trans he218;have e226:=(e199.trans he204).trans he218;refine Qa _ (Xe rfl (fun hb=>(Qi hb)) rfl)<|Qc (.bool ((decide (r26.2=0))&&r215)) rfl<|Qq (v:=(Iv r54.2.2)) ((decide (r26.2=0))&&r215) (QC rfl rfl rfl rfl) (fun hg=>(Qp rfl))<|Qq ((decide (r26.2=0))&&r215) (QC rfl rfl rfl rfl) (fun hg=>(Xj (Qi hg) rfl))<|Qa _ (Xe rfl (fun hb=>(Qi hb)) rfl)<|Qc (.bool (((decide (r26.2=0))&&r215)&&(decide (r54.2.2=0)))) rfl<|Qq (v:=(Iv r54.2.1)) (((decide (r26.2=0))&&r215)&&(decide (r54.2.2=0))) (QC rfl rfl rfl rfl) (fun hg=>(Qp rfl))<|Qq (((decide (r26.2=0))&&r215)&&(decide (r54.2.2=0))) (QC rfl rfl rfl rfl) (fun hg=>(Xj (Qi hg) rfl))<|Qa _ (Xe rfl (fun hb=>(Qi hb)) rfl)<|Qc (.bool ((((decide (r26.2=0))&&r215)&&(decide (r54.2.2=0)))&&(decide (r54.2.1=1)))) rfl<|Qq (v:=v58) ((((decide (r26.2=0))&&r215)&&(decide (r54.2.2=0)))&&(decide (r54.2.1=1))) (QC rfl rfl rfl rfl) (fun hg=>(Qp rfl))<|Qq ((((decide (r26.2=0))&&r215)&&(decide (r54.2.2=0)))&&(decide (r54.2.1=1))) (QC rfl rfl rfl rfl) (fun hg=>(Xq (cells:=[(.string (ByteArray.mk #[120])),(Iv 0)]) Zi (Qz rfl rfl QP) rfl))<|Qq ((((decide (r26.2=0))&&r215)&&(decide (r54.2.2=0)))&&(decide (r54.2.1=1))) (QC rfl rfl rfl rfl) (fun hg=>(Xq (cells:=[(.string (ByteArray.mk #[121])),(Iv 1)]) Zi (Qz rfl rfl (Qz rfl rfl QP)) rfl))<|Qdx (fun v w'=>SlRd ((pt b98)::L) w' v ([(Nf.mk (ByteArray.mk #[120]) 0),(Nf.mk (ByteArray.mk #[121]) 1)]:List Nf)) ((((decide (r26.2=0))&&r215)&&(decide (r54.2.2=0)))&&(decide (r54.2.1=1))) (QC rfl rfl rfl rfl) (fun hg=>Xm (xs:=([(Nf.mk (ByteArray.mk #[120]) 0),(Nf.mk (ByteArray.mk #[121]) 1)]:List Nf)) (cells:=[(.string (ByteArray.mk #[120])),(Iv 0),(.string (ByteArray.mk #[121])),(Iv 1)]) Tryz.underlying34 Qcq rfl (Qz (Qi hg) rfl (Qz (Qi hg) rfl QP)) rfl (Eb (cs:=[(.string (ByteArray.mk #[120])),(Iv 0)]) rfl (Eb (cs:=[(.string (ByteArray.mk #[121])),(Iv 1)]) rfl Ee)) rfl (QU (hL.chg e226) (hB120.ext e219)) (fun _ _ he h1=>⟨he,h1⟩)) ?_;intro v227 wd228 he229 h230;have e231:=e219.trans he229;replace h:=Qf h;obtain ⟨r242,hr243,h⟩:=h;refine Y1 ((((decide (r26.2=0))&&r215)&&(decide (r54.2.2=0)))&&(decide (r54.2.1=1))) (.bool r242) (QC rfl rfl rfl rfl) (fun hg=>Qu Tryz.func18 QCm rfl (QR (Qi hg) (Qi hg)) (QFe (Eh _) (((((h59.ext (he69.trans he89)).step (Qv he101 hb100)).step (Ql hc119 Qn)).ext e231).sub (fun _ h=>by cases h)) ((h230 hg).sub (fun _ h=>by cases h)) (Qr hg hr243)) (by rintro _ wd244 ⟨he245,rfl⟩;exact ⟨rfl,he245⟩)) ?_;intro wd244 he245;have e246:=e231.trans he245;have e254:=(e226.trans he229).trans he245;refine Qa _ (Xe rfl (fun hb=>(Qi hb)) rfl)<|Qc (.bool (((((decide (r26.2=0))&&r215)&&(decide (r54.2.2=0)))&&(decide (r54.2.1=1)))&&r242)) rfl<|Qq (v:=(Iv r86.2)) (((((decide (r26.2=0))&&r215)&&(decide (r54.2.2=0)))&&(decide (r54.2.1=1)))&&r242) (QC rfl rfl rfl rfl) (fun hg=>(Qp rfl))<|Qq (((((decide (r26.2=0))&&r215)&&(decide (r54.2.2=0)))&&(decide (r54.2.1=1)))&&r242) (QC rfl rfl rfl rfl) (fun hg=>(Xj (Qi hg) rfl))<|Qa _ (Xe rfl (fun hb=>(Qi hb)) rfl)<|Qc (.bool ((((((decide (r26.2=0))&&r215)&&(decide (r54.2.2=0)))&&(decide (r54.2.1=1)))&&r242)&&(decide (r86.2=0)))) rfl<|Qq ((((((decide (r26.2=0))&&r215)&&(decide (r54.2.2=0)))&&(decide (r54.2.1=1)))&&r242)&&(decide (r86.2=0))) (QC rfl rfl rfl rfl) (fun hg=>(Q9 (Box.at (hB120.ext e246)) Qec rfl))<|Qq ((((((decide (r26.2=0))&&r215)&&(decide (r54.2.2=0)))&&(decide (r54.2.1=1)))&&r242)&&(decide (r86.2=0))) (QC rfl rfl rfl rfl) (fun hg=>(Xq (cells:=[(Iv 2200000000),(Iv 2000000000),(Iv 500000000),(Iv 200000000),(Iv 500000000),(Iv 0)]) Qlz (Qz rfl rfl (Qz rfl rfl (Qz rfl rfl (Qz rfl rfl (Qz rfl rfl QP))))) rfl))<|Qq (v:=(.bool (decide ((Nl.mk r86.1.Fed r86.1.Used r86.1.Nt r86.1.Lost r86.1.Back r86.1.Ns)=(Nl.mk 2200000000 2000000000 500000000 200000000 500000000 0))))) ((((((decide (r26.2=0))&&r215)&&(decide (r54.2.2=0)))&&(decide (r54.2.1=1)))&&r242)&&(decide (r86.2=0))) (QC rfl rfl rfl rfl) (fun hg=>(Qsu Qvx (Qi hg) (Qi hg) (Qwf (Nl.mk r86.1.Fed r86.1.Used r86.1.Nt r86.1.Lost r86.1.Back r86.1.Ns) (Nl.mk 2200000000 2000000000 500000000 200000000 500000000 0))))<|Qa _ (Xe rfl (fun hb=>(Qi hb)) rfl)<|Qc (.bool (((((((decide (r26.2=0))&&r215)&&(decide (r54.2.2=0)))&&(decide (r54.2.1=1)))&&r242)&&(decide (r86.2=0)))&&(decide ((Nl.mk r86.1.Fed r86.1.Used r86.1.Nt r86.1.Lost r86.1.Back r86.1.Ns)=(Nl.mk 2200000000 2000000000 500000000 200000000 500000000 0))))) rfl<|Qq (v:=(Iv r158.2)) (((((((decide (r26.2=0))&&r215)&&(decide (r54.2.2=0)))&&(decide (r54.2.1=1)))&&r242)&&(decide (r86.2=0)))&&(decide ((Nl.mk r86.1.Fed r86.1.Used r86.1.Nt r86.1.Lost r86.1.Back r86.1.Ns)=(Nl.mk 2200000000 2000000000 500000000 200000000 500000000 0)))) (QC rfl rfl rfl rfl) (fun hg=>(Qp rfl))<|Qq (((((((decide (r26.2=0))&&r215)&&(decide (r54.2.2=0)))&&(decide (r54.2.1=1)))&&r242)&&(decide (r86.2=0)))&&(decide ((Nl.mk r86.1.Fed r86.1.Used r86.1.Nt r86.1.Lost r86.1.Back r86.1.Ns)=(Nl.mk 2200000000 2000000000 500000000 200000000 500000000 0)))) (QC rfl rfl rfl rfl) (fun hg=>(Xj (Qi hg) rfl))<|Qa _ (Xe rfl (fun hb=>(Qi hb)) rfl)<|Qc (.bool ((((((((decide (r26.2=0))&&r215)&&(decide (r54.2.2=0)))&&(decide (r54.2.1=1)))&&r242)&&(decide (r86.2=0)))&&(decide ((Nl.mk r86.1.Fed r86.1.Used r86.1.Nt r86.1.Lost r86.1.Back r86.1.Ns)=(Nl.mk 2200000000 2000000000 500000000 200000000 500000000 0))))&&(decide (r158.2=0)))) rfl<|Qq (v:=v162) ((((((((decide (r26.2=0))&&r215)&&(decide (r54.2.2=0)))&&(decide (r54.2.1=1)))&&r242)&&(decide (r86.2=0)))&&(decide ((Nl.mk r86.1.Fed r86.1.Used r86.1.Nt r86.1.Lost r86.1.Back r86.1.Ns)=(Nl.mk 2200000000 2000000000 500000000 200000000 500000000 0))))&&(decide (r158.2=0))) (QC rfl rfl rfl rfl) (fun hg=>(Qp rfl))<|Qdx (fun v w'=>SlRd ((pt b98)::L) w' v ([0,1]:List Int)) ((((((((decide (r26.2=0))&&r215)&&(decide (r54.2.2=0)))&&(decide (r54.2.1=1)))&&r242)&&(decide (r86.2=0)))&&(decide ((Nl.mk r86.1.Fed r86.1.Used r86.1.Nt r86.1.Lost r86.1.Back r86.1.Ns)=(Nl.mk 2200000000 2000000000 500000000 200000000 500000000 0))))&&(decide (r158.2=0))) (QC rfl rfl rfl rfl) (fun hg=>Xm (xs:=([0,1]:List Int)) (cells:=[(Iv 0),(Iv 1)]) Tryz.underlying35 YG rfl (Qz rfl rfl (Qz rfl rfl QP)) rfl (Eb (cs:=[(Iv 0)]) rfl (Eb (cs:=[(Iv 1)]) rfl Ee)) rfl (QU (hL.chg e254) (hB120.ext e246)) (fun _ _ he h1=>⟨he,h1⟩)) ?_;intro v255 wd256 he257 h258;replace h:=Qf h;obtain ⟨r271,hr272,h⟩:=h;refine Y1 ((((((((decide (r26.2=0))&&r215)&&(decide (r54.2.2=0)))&&(decide (r54.2.1=1)))&&r242)&&(decide (r86.2=0)))&&(decide ((Nl.mk r86.1.Fed r86.1.Used r86.1.Nt r86.1.Lost r86.1.Back r86.1.Ns)=(Nl.mk 2200000000 2000000000 500000000 200000000 500000000 0))))&&(decide (r158.2=0))) (.bool r271) (QC rfl rfl rfl rfl) (fun hg=>Qu Tryz.func17 Qpd rfl (QR (Qi hg) (Qi hg)) (Qlu (Eh _) ((h163.ext (((((((he170.trans he179).trans he191).trans he204).trans he218).trans he229).trans he245).trans he257)).sub (fun _ h=>by cases h)) ((h258 hg).sub (fun _ h=>by cases h)) (Qr hg hr272)) (by rintro _ wd273 ⟨he274,rfl⟩;exact ⟨rfl,he274⟩)) ?_;intro wd273 he274;refine Qa _ (Xe rfl (fun hb=>(Qi hb)) rfl)<|Qc (.bool (((((((((decide (r26.2=0))&&r215)&&(decide (r54.2.2=0)))&&(decide (r54.2.1=1)))&&r242)&&(decide (r86.2=0)))&&(decide ((Nl.mk r86.1.Fed r86.1.Used r86.1.Nt r86.1.Lost r86.1.Back r86.1.Ns)=(Nl.mk 2200000000 2000000000 500000000 200000000 500000000 0))))&&(decide (r158.2=0)))&&r271)) rfl<|Qq (v:=(Iv r188.2)) (((((((((decide (r26.2=0))&&r215)&&(decide (r54.2.2=0)))&&(decide (r54.2.1=1)))&&r242)&&(decide (r86.2=0)))&&(decide ((Nl.mk r86.1.Fed r86.1.Used r86.1.Nt r86.1.Lost r86.1.Back r86.1.Ns)=(Nl.mk 2200000000 2000000000 500000000 200000000 500000000 0))))&&(decide (r158.2=0)))&&r271) (QC rfl rfl rfl rfl) (fun hg=>(Qp rfl))<|Qq (((((((((decide (r26.2=0))&&r215)&&(decide (r54.2.2=0)))&&(decide (r54.2.1=1)))&&r242)&&(decide (r86.2=0)))&&(decide ((Nl.mk r86.1.Fed r86.1.Used r86.1.Nt r86.1.Lost r86.1.Back r86.1.Ns)=(Nl.mk 2200000000 2000000000 500000000 200000000 500000000 0))))&&(decide (r158.2=0)))&&r271) (QC rfl rfl rfl rfl) (fun hg=>(Xj (Qi hg) rfl))<|Qa _ (Xe rfl (fun hb=>(Qi hb)) rfl)<|Qc (.bool ((((((((((decide (r26.2=0))&&r215)&&(decide (r54.2.2=0)))&&(decide (r54.2.1=1)))&&r242)&&(decide (r86.2=0)))&&(decide ((Nl.mk r86.1.Fed r86.1.Used r86.1.Nt r86.1.Lost r86.1.Back r86.1.Ns)=(Nl.mk 2200000000 2000000000 500000000 200000000 500000000 0))))&&(decide (r158.2=0)))&&r271)&&(decide (r188.2=0)))) rfl<|Qq (v:=v192) ((((((((((decide (r26.2=0))&&r215)&&(decide (r54.2.2=0)))&&(decide (r54.2.1=1)))&&r242)&&(decide (r86.2=0)))&&(decide ((Nl.mk r86.1.Fed r86.1.Used r86.1.Nt r86.1.Lost r86.1.Back r86.1.Ns)=(Nl.mk 2200000000 2000000000 500000000 200000000 500000000 0))))&&(decide (r158.2=0)))&&r271)&&(decide (r188.2=0))) (QC rfl rfl rfl rfl) (fun hg=>(Qp rfl)) ?_;replace h:=Qf h;obtain ⟨r285,hr286,h⟩:=h;refine Y1 ((((((((((decide (r26.2=0))&&r215)&&(decide (r54.2.2=0)))&&(decide (r54.2.1=1)))&&r242)&&(decide (r86.2=0)))&&(decide ((Nl.mk r86.1.Fed r86.1.Used r86.1.Nt r86.1.Lost r86.1.Back r86.1.Ns)=(Nl.mk 2200000000 2000000000 500000000 200000000 500000000 0))))&&(decide (r158.2=0)))&&r271)&&(decide (r188.2=0))) (AgV [(Iv r285.Num),(Iv r285.Den)]) (QC rfl rfl rfl rfl) (fun hg=>Qu Tryz.func20 Qjh rfl (QW rfl) (Qhn (Eh _) (Qr hg hr286)) (by rintro _ wd287 ⟨he288,cs289,rfl,hrd290⟩;have hrd290:cs289=[(Iv r285.Num),(Iv r285.Den)]:=hrd290;subst hrd290;exact ⟨rfl,he288⟩)) ?_;intro wd287 he288;replace h:=Qf h;obtain ⟨r302,hr303,h⟩:=h;refine Y1 ((((((((((decide (r26.2=0))&&r215)&&(decide (r54.2.2=0)))&&(decide (r54.2.1=1)))&&r242)&&(decide (r86.2=0)))&&(decide ((Nl.mk r86.1.Fed r86.1.Used r86.1.Nt r86.1.Lost r86.1.Back r86.1.Ns)=(Nl.mk 2200000000 2000000000 500000000 200000000 500000000 0))))&&(decide (r158.2=0)))&&r271)&&(decide (r188.2=0))) (AgV [(Iv r302.Num),(Iv r302.Den)]) (QC rfl rfl rfl rfl) (fun hg=>Qu Tryz.func20 Qjh rfl (QW rfl) (Qhn (Eh _) (Qr hg hr303)) (by rintro _ wd304 ⟨he305,cs306,rfl,hrd307⟩;have hrd307:cs306=[(Iv r302.Num),(Iv r302.Den)]:=hrd307;subst hrd307;exact ⟨rfl,he305⟩)) ?_;intro wd304 he305;replace h:=Qf h;obtain ⟨r319,hr320,h⟩:=h;refine Y1 ((((((((((decide (r26.2=0))&&r215)&&(decide (r54.2.2=0)))&&(decide (r54.2.1=1)))&&r242)&&(decide (r86.2=0)))&&(decide ((Nl.mk r86.1.Fed r86.1.Used r86.1.Nt r86.1.Lost r86.1.Back r86.1.Ns)=(Nl.mk 2200000000 2000000000 500000000 200000000 500000000 0))))&&(decide (r158.2=0)))&&r271)&&(decide (r188.2=0))) (AgV [(Iv r319.Num),(Iv r319.Den)]) (QC rfl rfl rfl rfl) (fun hg=>Qu Tryz.func20 Qjh rfl (QW rfl) (Qhn (Eh _) (Qr hg hr320)) (by rintro _ wd321 ⟨he322,cs323,rfl,hrd324⟩;have hrd324:cs323=[(Iv r319.Num),(Iv r319.Den)]:=hrd324;subst hrd324;exact ⟨rfl,he322⟩)) ?_;intro wd321 he322;have e335:=((((e254.trans he257).trans he274).trans he288).trans he305).trans he322;refine Qdx (fun v w'=>SlRd ((pt b98)::L) w' v ([r285,r302,r319]:List Frac)) ((((((((((decide (r26.2=0))&&r215)&&(decide (r54.2.2=0)))&&(decide (r54.2.1=1)))&&r242)&&(decide (r86.2=0)))&&(decide ((Nl.mk r86.1.Fed r86.1.Used r86.1.Nt r86.1.Lost r86.1.Back r86.1.Ns)=(Nl.mk 2200000000 2000000000 500000000 200000000 500000000 0))))&&(decide (r158.2=0)))&&r271)&&(decide (r188.2=0))) (QC rfl rfl rfl rfl) (fun hg=>Xm (xs:=([r285,r302,r319]:List Frac)) (cells:=[(Iv r285.Num),(Iv r285.Den),(Iv r302.Num),(Iv r302.Den),(Iv r319.Num),(Iv r319.Den)]) Tryz.underlying53 Qia rfl (Qz (Qi hg) rfl (Qz (Qi hg) rfl (Qz (Qi hg) rfl QP))) rfl (Eb (cs:=[(Iv r285.Num),(Iv r285.Den)]) rfl (Eb (cs:=[(Iv r302.Num),(Iv r302.Den)]) rfl (Eb (cs:=[(Iv r319.Num),(Iv r319.Den)]) rfl Ee))) rfl (QU (hL.chg e335) (hB120.ext (((((e246.trans he257).trans he274).trans he288).trans he305).trans he322))) (fun _ _ he h1=>⟨he,h1⟩)) ?_;intro v336 wd337 he338 h339;replace h:=Qf h;obtain ⟨r353,hr354,h⟩:=h;refine Y1 ((((((((((decide (r26.2=0))&&r215)&&(decide (r54.2.2=0)))&&(decide (r54.2.1=1)))&&r242)&&(decide (r86.2=0)))&&(decide ((Nl.mk r86.1.Fed r86.1.Used r86.1.Nt r86.1.Lost r86.1.Back r86.1.Ns)=(Nl.mk 2200000000 2000000000 500000000 200000000 500000000 0))))&&(decide (r158.2=0)))&&r271)&&(decide (r188.2=0))) (.bool r353) (QC rfl rfl rfl rfl) (fun hg=>Qu Tryz.func19 QCn rfl (QR (Qi hg) (Qi hg)) (Que (Eh _) ((h193.ext (((((((((he204.trans he218).trans he229).trans he245).trans he257).trans he274).trans he288).trans he305).trans he322).trans he338)).sub (fun _ h=>by cases h)) ((h339 hg).sub (fun _ h=>by cases h)) (Qr hg hr354)) (by rintro _ wd355 ⟨he356,rfl⟩;exact ⟨rfl,he356⟩)) ?_;intro wd355 he356;refine Qa _ (Xe rfl (fun hb=>(Qi hb)) rfl)<|Qe (.bool (((((((((((decide (r26.2=0))&&r215)&&(decide (r54.2.2=0)))&&(decide (r54.2.1=1)))&&r242)&&(decide (r86.2=0)))&&(decide ((Nl.mk r86.1.Fed r86.1.Used r86.1.Nt r86.1.Lost r86.1.Back r86.1.Ns)=(Nl.mk 2200000000 2000000000 500000000 200000000 500000000 0))))&&(decide (r158.2=0)))&&r271)&&(decide (r188.2=0)))&&r353)) rfl<|Qb<|Qt ?_;replace h:=Qg h;subst h;exact ⟨[(.bool (((((((((((decide (r26.2=0))&&r215)&&(decide (r54.2.2=0)))&&(decide (r54.2.1=1)))&&r242)&&(decide (r86.2=0)))&&(decide ((Nl.mk r86.1.Fed r86.1.Used r86.1.Nt r86.1.Lost r86.1.Back r86.1.Ns)=(Nl.mk 2200000000 2000000000 500000000 200000000 500000000 0))))&&(decide (r158.2=0)))&&r271)&&(decide (r188.2=0)))&&r353))],⟨rfl,trivial⟩,((e335.trans he338).trans he356),rfl⟩

end Go.Gw

end
section
set_option maxRecDepth 1000000
namespace Go.Gw
open Go
def Qbp (x:Nn):List Nn->List (List Nn)
 | []=>[[x]]
 | y::ys=>(x::y::ys)::(Qbp x ys).map (y::·)
def Qda:List Nn->List (List Nn)
 | []=>[[]]
 | x::xs=>(Qda xs).flatMap (Qbp x)
theorem Qok {x:Nn}:∀ (l1 l2:List Nn),l1++x::l2∈Qbp x (l1++l2)
 | [],[]=>by simp [Qbp]
 | [],y::l2=>by simp [Qbp]
 | y::l1,l2=>by
  simp only [List.cons_append,Qbp,List.mem_cons,List.mem_map];exact .inr ⟨_,Qok l1 l2,rfl⟩
theorem Qqe:∀ (l l':List Nn),l'.Perm l->l'∈Qda l
 | [],l',h=>by simp [Qda,h.eq_nil]
 | x::xs,l',h=>by
  obtain ⟨l1,l2,rfl⟩:=List.append_of_mem (h.symm.subset (List.mem_cons_self ..));have h2:(l1++l2).Perm xs:=(List.perm_cons x).1 ((List.perm_middle.symm).trans h);simp only [Qda,List.mem_flatMap];exact ⟨l1++l2,Qqe xs _ h2,Qok l1 l2⟩
theorem QEr {net:Nm} {t:Na} {r:Nn} {rs:List Nn} (ht:0<=t.Nc/\t.Nc<=t.Nd/\t.Nd<=1000000000) (h1:ZV net t (t.Nd - t.Nc+1).toNat=some rs) (h2:(Qda rs).all (fun l=>decide (Zb l ⟨[],0,false⟩=some r))=true):Qbj net t=some r:=by
 unfold Qbj;rw [if_pos ht,h1];have hall:∀ l:List Nn,l.Perm rs->Zb l ⟨[],0,false⟩=some r:=fun l hp=>of_decide_eq_true (List.all_eq_true.1 h2 l (Qqe _ _ hp))
 have he:∃ r,∀ l:List Nn,l.Perm rs->Zb l ⟨[],0,false⟩=some r:=⟨r,hall⟩;simp only [Ed];rw [dif_pos he];have h1:=he.choose_spec rs (List.Perm.refl _);rw [hall rs (List.Perm.refl _)] at h1;exact h1.symm
noncomputable abbrev netA (l:Int):Nb:=(Qbr l).getD default
theorem QEl:Qfd (netA 2900)=some (⟨netA 2900⟩,0):=by decide +kernel
theorem Quk:Qez (netA 2900)=some ([⟨⟨#[120]⟩,0⟩,⟨⟨#[121]⟩,1⟩],1,0):=by
 refine Runs.eq ?_;unfold Qez;refine Ef QEl (Runs.bif_f rfl (Ef (b:=(0:Int)) (by decide +kernel) (Runs.bif_f rfl (Ef (b:=([0,1],(1:Int),true)) ?_ (Runs.of_eq (a:=([⟨⟨#[120]⟩,0⟩,⟨⟨#[121]⟩,1⟩],1,0)) (by decide +kernel) rfl)))));refine Runs.eq (Runs.bif_f rfl (Ef (b:=(netA 2900).Nj.head!) (by decide +kernel) (Ef (b:=(⟨[0,1],1,true⟩:Nn)) ?_ (Runs.some rfl))));exact QEr (rs:=(ZV ⟨netA 2900⟩ (netA 2900).Nj.head! 3).getD []) (by decide +kernel) (by decide +kernel) (by decide +kernel)
theorem Qub:Qfs=some true:=by
 refine Runs.eq ?_;unfold Qfs;refine Ef (b:=netA 3000) rfl (Ef (b:=([1320000000,880000000],(0:Int))) (by decide +kernel) (Ef (b:=netA 2900) rfl (Ef Quk ?_)));exact Runs.of_eq (a:=true) (by decide +kernel) rfl
end Go.Gw

end
