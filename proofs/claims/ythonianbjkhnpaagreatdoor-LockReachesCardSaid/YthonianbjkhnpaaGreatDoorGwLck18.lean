/- Laws of the walk. Condition: each theorem says its own. -/
import Derived.Test.YthonianbjkhnpaaGreatDoorGwAwakeLock
set_option linter.unusedVariables false
set_option linter.unusedSimpArgs false
set_option linter.unusedSectionVars false
section
set_option maxRecDepth 4096
namespace Go.Gw
open Go
attribute [local irreducible] loop
theorem QKm {α ρ:Type} {step:Int->Option (Int⊕(ρ⊕Unit))} (xs:List α) (p:α->Bool) (c:ρ) (h1:1<=xs.length)
  (hs:∀ k (hk:k < xs.length),1<=k->step (k:Int)=(bif p xs[k] then some (.inr (.inl c)) else some (.inl ((k+1:Nat):Int))))
  (he:step (xs.length:Int)=some (.inr (.inr ()))):loop step 1=some (if (xs.drop 1).any p=true then .inl c else .inr ()):=by
 have key:∀ j k,1<=k->j+k=xs.length->loop step (k:Int)=some (if (xs.drop k).any p=true then .inl c else .inr ()):=by
  intro j
  induction j with
  | zero =>
   grind [JW,List.drop_length]
  | succ j ih =>
   intro k hk1 hk;have hlt:k < xs.length:=by omega
   rw [List.drop_eq_getElem_cons hlt,List.any_cons];have:=hs k hlt hk1;cases hp:p xs[k] with
   | true=>grind [JW]
   | false=>rw [hp] at this;rw [Qao this,Bool.false_or];grind
 exact key (xs.length - 1) 1 (by omega) (by omega)
def Qcf (q:Int×Int):Bool:=!decide (q.1=-1)&&!decide (q.1=q.2)
theorem QEk {p:Nd} {r:Nm} {sw:List Int} (h1:r.Nq.length=p.Na.length) (h2:sw.length=p.Na.length) (hx:(r.Nq.zip p.Na).any (JX r)=false):(r.Nq.zip sw).any Qcf=!(ZX p sw r r.Nc):=by
 rw [List.any_eq_false] at hx;have hn:∀ k (hk:k < p.Na.length),(p.Na[k].Np∈r.Nc->r.Nq[k]≠-1)/\(p.Na[k].Np∉r.Nc->r.Nq[k]=-1):=fun k hk=>by
  have:=hx (r.Nq[k],p.Na[k]) (List.mem_iff_getElem.2 ⟨k,by simp;omega,by simp⟩);unfold JX at this;by_cases hm:p.Na[k].Np∈r.Nc
  ·simp [hm] at this
   grind
  simp_all
 cases hl:ZX p sw r r.Nc with
 | true =>
  rw [Bool.not_true,List.any_eq_false];intro q hq;obtain ⟨k,hk,rfl⟩:=List.getElem_of_mem hq;simp only [List.length_zip] at hk;simp only [List.getElem_zip,Qcf,Bool.and_eq_true,Bool.not_eq_true',decide_eq_false_iff_not,not_and,Decidable.not_not]
  grind [absurd,liesB_iff]
 | false =>
  rw [Bool.not_false];cases ha:(r.Nq.zip sw).any Qcf with
  | true=>rfl
  | false =>
   rw [List.any_eq_false] at ha;have:ZX p sw r r.Nc=true:=liesB_iff.2 fun k k1 k2 k3 hm=>by
    have:=ha (r.Nq[k],sw[k]) (List.mem_iff_getElem.2 ⟨k,by simp;omega,by simp⟩);simp_all [Qcf,Bool.and_eq_true,Bool.not_eq_true',decide_eq_false_iff_not,not_and,Decidable.not_not]
   simp_all
theorem Qqg {α:Type} {xs:List α} (h:0 < xs.length):idx xs 0=some xs[0]:=Xw (k:=0) h
theorem Qzk {p:Nd} (hp:PlantOk p) {x:Nf} (h:StateOk p x) {e:Nj} (he:YT p e=0):Qmn p x e=some (if Y5 p x e=0 then (Ye p x e,0) else (x,Y5 p x e)):=by
  have hs:=h.s hp;have hw4:=hp.w4;have ht3:=hp.t3;have hkd:=Qhj he;have hsl:=h.sw;have htl:=h.tr;unfold Qmn;by_cases h2:e.Kind=2
  · obtain ⟨a0,a1,a2⟩:=Qpw he h2;have e1:Y5 p x e=(bif Zj x (Qec p e).Np then 17 else 0):=by unfold Y5;omega
    have e2:Ye p x e=⟨x.Na.set e.A.toNat e.B,x.Nb,x.Ni⟩:=by unfold Ye;grind
    rw [e1,e2,Qtq a1,decide_eq_true h2,cond_true,Qvs hs,Qt,Qbn a0 a1,Qt,Qsl hs,Qt,Qko];cases Zj x p.Na[e.A.toNat].Np with
    | true=>rfl
    | false =>
      simp_all [Qbn,Qt,cond_false]
  obtain ⟨a0,a1,a2,a3,a4⟩:=Qpv he h2;have ha:e.A.toNat < x.Nb.length:=by omega
  have htm:ZH x e∈x.Nb:=by grind [List.getElem_mem,Qgl]
  have hcl:=h.len htm;have hs8:=hp.s8;have hu:=h.un _ htm;have e2:Ye p x e=⟨x.Na,x.Nb.set e.A.toNat (trX p (ZH x e) e),x.Ni⟩:=by unfold Ye;grind
  rw [e2,decide_eq_false h2,cond_false,Qvs hs,Qt];have hix:∀ {α:Type} (f:Nl->Option α),Option.bind (idx x.Nb e.A) f=f (ZH x e):=fun f=>by rw [Qbn a0 ha,Qt,Qgl ha]
  rw [hix];simp only [hix];unfold Y5 trX;simp only [if_neg h2];generalize ZH x e=t at *
  by_cases h0:e.Kind=0
  · simp only [if_pos h0,decide_eq_true h0,cond_true];by_cases hc:t.Ng.length=0
    · rw [if_pos hc,decide_eq_false (show ¬ (0:Int) < t.Ng.length by omega),cond_false,Qsl hs,Qt,Qko]
      grind
    grind
  simp only [if_neg h0,decide_eq_false h0,cond_false];by_cases hc:t.Ng.length=0
  · simp_all
  rw [decide_eq_false (show ¬ (t.Ng.length:Int)=0 by omega),cond_false,if_neg hc];have hu2:1<=t.Nk/\t.Nk<=t.Ng.length:=by
    simp_all
  by_cases h1:e.Kind=1
  · simp only [if_pos h1,decide_eq_true h1,cond_true];obtain ⟨b0,b1⟩:=a3 h1;rw [Qbn b0 b1,Qt,<-Qii b1];have hr:J1 p e∈p.Nh:=by grind [List.getElem_mem,Qii]
    generalize J1 p e=r at *
    have hr2:=hp.r2 r hr;have hr8:=hp.r8 r hr;have hrn:=hp.rn r hr;have hrx:=hp.rx r hr;rw [Qqg (show 0 < r.Nc.length by omega),Qt,
      show w64 ((t.Ng.length:Int) - 1)=((t.Ng.length - 1:Nat):Int) by grind [YS],Xw (show t.Ng.length - 1 < t.Ng.length by omega),Qt,Qwl (by omega) (by omega)]
    by_cases h3:r.Nc.head?=t.Ng.getLast?
    · rw [if_pos h3,decide_eq_true h3,Bool.not_true,cond_false];have l0:loop (Qmm r x x) 1=some (if (r.Nc.drop 1).any (Zj x)=true then .inl (.inl (x,17)) else .inr ()) :=
        QKm r.Nc (Zj x) _ (by omega) (fun k hk _=>by
          unfold Qmm;rw [XK hk,cond_true,Xw hk,Qt,Qsl hs,Qt,Qko,Xs k (by omega)]) (by
          simp_all [XL,Qmm])
      have hlen:(r.Nq.zip x.Na).length=r.Nq.length:=by grind
      have l1:loop (Qie r x x) 0=some (if (r.Nq.zip x.Na).any Qcf=true then .inl (.inl (x,13)) else .inr ()):=by
        rw [ZB (step:=Qie r x x) (r.Nq.zip x.Na) Qcf (fun _ _=>.inl (x,13)) (fun k hk=>by
          rw [hlen] at hk;unfold Qie;rw [XK hk,cond_true,Xw hk,Qt,Xw (show k < x.Na.length by omega),Xs k (by omega)]
          grind [decide,Qcf]) (by
          simp_all [XL,Qie])]
        grind [JI,Qcf,Nf,Int,List]
      rw [l0,l1,QEk hrn hsl hrx];cases hb:(r.Nc.drop 1).any (Zj x) with
      | true=>rfl
      | false =>
        cases hl:ZX p x.Na r r.Nc with
        | false=>rfl
        | true =>
          simp only [Bool.not_true,Bool.false_eq_true,if_false,Qt,XA,cond_false,cond_true,if_true]
          grind [Qhe,Qdq,Zl]
    · rw [if_neg h3,decide_eq_false h3];rfl
  simp only [if_neg h1,decide_eq_false h1,cond_false];by_cases h3:e.Kind=3
  · simp only [if_pos h3,decide_eq_true h3,cond_true];rw [if_neg (show ¬ e.Kind=4 by omega),if_pos (show e.Kind=3\/e.Kind=5 from .inl h3),YS (by omega)];by_cases h5:t.Nk < t.Ng.length
    · rw [if_pos h5,decide_eq_false (show ¬ t.Nk=t.Ng.length by omega)];rfl
    · rw [if_neg h5,decide_eq_true (show t.Nk=t.Ng.length by omega)];rfl
  simp only [if_neg h3,decide_eq_false h3,cond_false];by_cases h4:e.Kind=4
  · simp only [if_pos h4,decide_eq_true h4,cond_true];rw [YS (by omega)];by_cases h5:1 < t.Nk
    · rw [if_pos h5,decide_eq_false (show ¬ t.Nk=1 by omega),cond_false,Qhe (by omega),Qt,Qdq _ (by simp;omega)];rfl
    · rw [if_neg h5,decide_eq_true (show t.Nk=1 by omega)];rfl
  simp only [if_neg h4,decide_eq_false h4,cond_false];by_cases h5:e.Kind=5
  · simp only [if_pos h5,decide_eq_true h5,cond_true];rw [if_pos (show e.Kind=3\/e.Kind=5 from .inr h5)];by_cases h6:t.Nk < t.Ng.length
    · rw [if_pos h6,decide_eq_false (show ¬ t.Nk=t.Ng.length by omega),cond_false,show w64 ((t.Ng.length:Int) - 1)=((t.Ng.length - 1:Nat):Int) by grind [YS],Qev (by omega),Qt,Qdq _ (by simp;omega)];rfl
    · rw [if_neg h6,decide_eq_true (show t.Nk=t.Ng.length by omega)];rfl
  simp only [if_neg h5,decide_eq_false h5,cond_false];rw [if_neg (show ¬ (e.Kind=3\/e.Kind=5) by omega),decide_eq_true (show e.Kind=6 by omega),cond_true];by_cases h6:t.Ng.length=1
  · rw [if_pos h6,decide_eq_false (show ¬ (1:Int) < t.Ng.length by omega)];rfl
  · rw [if_neg h6,decide_eq_true (show (1:Int) < t.Ng.length by omega)];rfl
theorem QOx {p:Nd} (h:PlantS p):Qmc p=some (YE p):=by
 have h1:=h.sw;have h2:=h.tr;unfold Qmc;rw [Qlp _ _ (by omega),Qt,Qlp _ _ (by omega),Qt];rfl
theorem Qzl {β:Type} (f:Nat->List β) (n:Nat):∀ d:Nat,((List.range (n+d)).flatMap fun b=>if b < n then f b else [])=(List.range n).flatMap f
 | 0=>by
  rw [Nat.add_zero,List.flatMap_def,List.flatMap_def,List.map_congr_left fun b hb=>if_pos (List.mem_range.1 hb)]
 | d+1=>by
  rw [<-Nat.add_assoc,List.range_succ,List.flatMap_append,Qzl f n d];have h:¬ n+d < n:=by omega
  simp [h]
theorem Qzm {β:Type} (f:Nat->List β) {n N:Nat} (h:n<=N):((List.range N).flatMap fun b=>if b < n then f b else [])=(List.range n).flatMap f:=by
 obtain ⟨d,rfl⟩:∃ d,N=n+d:=⟨N - n,by omega⟩;exact Qzl f n d
def Je (a b:Nat):Nat:=if a < b then b else a
theorem Qrm (a b:Nat):(if (a:Int) < (b:Int) then (b:Int) else (a:Int))=((Je a b:Nat):Int):=by
 unfold Je
 grind
theorem Qxu (a b:Nat):a<=Je a b/\b<=Je a b:=by grind [Je]
theorem Qrn {a b n:Nat} (ha:a<=n) (hb:b<=n):Je a b<=n:=by grind [Je]
theorem QPa {p:Nd} (hS:PlantS p) (hp:PlantOk p):Qmj p=some (Ya p):=by
  have hs8:=hp.s8;have ht3:=hp.t3;have hw4:=hp.w4;have hr10:=hp.r10;have hB:Je 2 (Je p.Nc.length p.Nh.length)<=10:=Qrn (by omega) (Qrn (by omega) (by omega));have hA:Je p.Nb.length p.Na.length<=4:=Qrn (by omega) (by omega);have eB:(if (2:Int) < (if (p.Nc.length:Int) < (p.Nh.length:Int) then (p.Nh.length:Int) else (p.Nc.length:Int)) then (if (p.Nc.length:Int) < (p.Nh.length:Int) then (p.Nh.length:Int) else (p.Nc.length:Int)) else 2)=((Je 2 (Je p.Nc.length p.Nh.length):Nat):Int):=by
    rw [Qrm];exact Qrm 2 _
  have eA:=Qrm p.Nb.length p.Na.length;generalize hBv:Je 2 (Je p.Nc.length p.Nh.length)=B at *
  generalize hAv:Je p.Nb.length p.Na.length=A at *
  have g:∀ k a b,(if YT p (X9 k a b)=0 then [X9 k a b] else []).length<=1:=fun k a b=>by grind
  have l0:∀ k:Nat,k < 7->∀ a:Nat,∀ acc:List Nj,acc.length<=1000->loop (Qia p (k:Int) (a:Int)) (acc,0)=some (acc++(List.range B).flatMap fun b=>if YT p (X9 k a b)=0 then [X9 k a b] else [])/\(acc++(List.range B).flatMap fun b=>if YT p (X9 k a b)=0 then [X9 k a b] else []).length<=acc.length+B * 1 :=
    fun k hk a acc hacc=>Qfo (step:=Qia p (k:Int) (a:Int)) B 1 (fun b=>if YT p (X9 k a b)=0 then [X9 k a b] else []) (fun b acc=>(acc,(b:Int))) (fun acc=>acc) acc (fun b _=>g k a b) (fun b hb acc' hl=>by
      unfold Qia;simp only [eB,XK hb,cond_true];rw [show (Nj.mk (k:Int) (a:Int) (b:Int))=X9 k a b from rfl,QOz hS,Qt];by_cases h3:YT p (X9 k a b)=0
      · rw [decide_eq_true h3,cond_true,Zl (by simp;omega),Qt,Xs b (by omega),if_pos h3]
      · rw [decide_eq_false h3,cond_false,Xs b (by omega),if_neg h3,List.append_nil]) (fun acc'=>by
      simp_all [XL,Qia])
  have l1:∀ k:Nat,k < 7->∀ acc:List Nj,acc.length<=500->loop (Qib p (k:Int)) (acc,0)=some (acc++(List.range A).flatMap fun a=>(List.range B).flatMap fun b=>if YT p (X9 k a b)=0 then [X9 k a b] else [])/\(acc++(List.range A).flatMap fun a=>(List.range B).flatMap fun b=>if YT p (X9 k a b)=0 then [X9 k a b] else []).length<=acc.length+A * 10 :=
    fun k hk acc hacc=>Qfo (step:=Qib p (k:Int)) A 10 (fun a=>(List.range B).flatMap fun b=>if YT p (X9 k a b)=0 then [X9 k a b] else []) (fun a acc=>(acc,(a:Int))) (fun acc=>acc) acc (fun a ha=>by
      have:=(l0 k hk a [] (by simp)).2
      grind) (fun a ha acc' hl=>by
      have hl2:a * 10<=40:=by omega
      unfold Qib;simp only [eA,XK ha,cond_true]
      grind [Xs]) (fun acc'=>by
      simp_all [XL,Qib])
  have l2 : loop (Qmi p) (([] : List Nj), 0) = _ := (Qfo (step := Qmi p) 7 40 (fun k => (List.range A).flatMap fun a => (List.range B).flatMap fun b => if YT p (X9 k a b) = 0 then [X9 k a b] else []) (fun k acc => (acc, (k : Int))) (fun acc => acc) [] (fun k hk => by
      grind [List.length_nil]) (fun k hk acc hl=>by
      unfold Qmi;simp only [show decide ((k:Int) < 7)=true by grind,cond_true];rw [(l1 k hk acc (by grind)).1,Qt,Xs k (by omega)]) (fun acc=>by rfl)).1
  unfold Qmj;rw [l2,Qt,List.nil_append];unfold Ya;congr 1;rw [List.flatMap_def,List.flatMap_def,List.map_congr_left fun k hk=>?_];have hk:=List.mem_range.1 hk;have hAs:Zm p k<=A:=by grind [Qxu,Zm]
  have hBs:YN p k<=B:=by
    grind [Qxu,Je,YN]
  have e1:∀ a,((List.range B).flatMap fun b=>if YT p (X9 k a b)=0 then [X9 k a b] else [])=if a < Zm p k then ((List.range (YN p k)).flatMap fun b=>[X9 k a b]) else []:=fun a=>by
    by_cases ha:a < Zm p k
    · rw [if_pos ha,<-Qzm (fun b=>[X9 k a b]) hBs];rw [List.flatMap_def,List.flatMap_def,List.map_congr_left fun b _=>?_];by_cases hb:b < YN p k
      · simp_all [if_pos,Qhi]
      simp_all [if_neg,Qhi]
    · rw [if_neg ha];rw [List.flatMap_eq_nil_iff];intro b _;rw [if_neg fun h=>ha ((Qhi hk).1 h).1]
  simp only [e1]
  grind [Qzm,List.range,YN,X9]
/-! ### What lies in a list and meets a test -/
theorem Qwd {p:Nd} (hp:PlantOk p):(Ya p).length<=280:=by
 have hs8:=hp.s8;have ht3:=hp.t3;have hw4:=hp.w4;have hr10:=hp.r10;have hfl:∀ {β:Type} (f:Nat->List β) (M n:Nat),(∀ k,(f k).length<=M)->((List.range n).flatMap f).length<=n * M:=fun f M n h=>by
  induction n with
  | zero=>simp
  | succ n ih =>
   grind [List,Nat,List.range_succ,List.length_append,Nat.succ_mul]
 refine hfl _ 40 7 fun k=>?_;have h1:Zm p k<=4:=by grind [Zm]
 have h2:YN p k<=10:=by grind [YN]
 have:=hfl (fun a=>(List.range (YN p k)).flatMap fun b=>[X9 k a b]) 10 (Zm p k) fun a=>by
  have:=hfl (fun b=>[X9 k a b]) 1 (YN p k) fun _=>by simp
  omega
 omega
end Go.Gw

end
section
set_option maxRecDepth 4096
namespace Go.Gw
open Go
attribute [local irreducible] loop
end Go.Gw

end
section
set_option maxRecDepth 4096
namespace Go.Gw
open Go
attribute [local irreducible] loop
end Go.Gw

end
section
set_option maxRecDepth 4096
namespace Go.Gw
open Go
attribute [local irreducible] loop
def YJ (l:List ByteArray):ByteArray:=l.foldl (·++·) ByteArray.empty
theorem Qvm (l:List ByteArray) (x:ByteArray):YJ (l++[x])=YJ l++x:=by simp [YJ,List.foldl_append]
theorem QEf {m:Nat}:∀ {l:List ByteArray},(∀ s∈l,s.size<=m)->(YJ l).size<=l.length * m:=by
 have key:∀ (l:List ByteArray) (a:ByteArray),(∀ s∈l,s.size<=m)->(l.foldl (·++·) a).size<=a.size+l.length * m:=by
  intro l
  induction l with
  | nil=>intro a _;simp
  | cons x l ih =>
   intro a h;have h1:=ih (a++x) fun s hs=>h s (List.mem_cons_of_mem _ hs)
   have h2:=h x (List.mem_cons_self ..);rw [ByteArray.size_append] at h1;rw [List.foldl_cons,List.length_cons,Nat.succ_mul];omega
 intro l h;have:=key l ByteArray.empty h;simpa [YJ] using this
def YK (sep:ByteArray):List ByteArray->ByteArray
 | []=>ByteArray.empty
 | a::l=>l.foldl (fun r x=>r++sep++x) a
theorem Qql {sep:ByteArray} {l:List ByteArray} (h:l≠[]) (x:ByteArray):YK sep (l++[x])=YK sep l++sep++x:=by
 cases l with
 | nil=>exact absurd rfl h
 | cons a l=>simp [YK,List.foldl_append]
theorem Qqk {sep:ByteArray} {m:Nat} (hs:sep.size<=1):∀ {l:List ByteArray},(∀ s∈l,s.size<=m)->(YK sep l).size<=l.length * (m+1):=by
 have key:∀ (l:List ByteArray) (a:ByteArray),(∀ s∈l,s.size<=m)->(l.foldl (fun r x=>r++sep++x) a).size<=a.size+l.length * (m+1):=by
  intro l
  induction l with
  | nil=>intro a _;simp
  | cons x l ih =>
   intro a h;have h1:=ih (a++sep++x) fun s hs=>h s (List.mem_cons_of_mem _ hs)
   have h2:=h x (List.mem_cons_self ..);rw [ByteArray.size_append,ByteArray.size_append] at h1;rw [List.foldl_cons,List.length_cons,Nat.succ_mul];omega
 intro l h;cases l with
 | nil=>simp [YK]
 | cons a l =>
  have h1:=key l a fun s hs=>h s (List.mem_cons_of_mem _ hs)
  have h2:=h a (List.mem_cons_self ..);rw [List.length_cons,Nat.succ_mul];show (l.foldl (fun r x=>r++sep++x) a).size<=_;omega
theorem J8 {a b:ByteArray} (h:a.size+b.size<=1048576):Zy a b=some (a++b):=by unfold Zy;rw [if_pos h]
theorem Qwt {l:List ByteArray} {sep:ByteArray} (hs:sep.size=1) (hl:l.length<=1000) (hm:∀ s∈l,s.size<=100000):Qgf l sep=some (YK sep l):=by
  refine Runs.eq ?_;unfold Qgf;by_cases h0:l.length=0
  · have:l=[]:=List.length_eq_zero_iff.1 h0;subst this;exact Runs.bif_t rfl (Runs.some rfl)
  refine Runs.bif_f (by simp;intro e;subst e;exact h0 rfl) ?_;by_cases h1:l.length=1
  · refine Runs.bif_t (by rw [h1];rfl) (Runs.call (Qqg (by omega)) (Runs.some ?_));obtain ⟨a,rfl⟩:=List.length_eq_one_iff.1 h1;rfl
  refine Runs.bif_f (by rw [decide_eq_false];omega) ?_;have e1:w64 ((l.length:Int) - 1)=((l.length - 1:Nat):Int):=by rw [YS (by omega)];omega
  rw [hs,e1];refine Runs.callR (R:=fun x=>x=((l.length - 1:Nat):Int)) (Runs.bif_t rfl (Runs.call (QOv (by omega)) (Runs.callR (R:=fun _=>True) (Runs.bif_f ?_ (Runs.some trivial)) fun _ _=>Runs.some ?_))) ?_
  · refine decide_eq_false ?_;have h2:Int.tdiv 9223372036854775807 ((l.length - 1:Nat):Int)=((9223372036854775807 / (l.length - 1):Nat):Int):=rfl;have h3:9223372036854775807 / (l.length - 1)<=9223372036854775807:=Nat.div_le_self _ _;have h4:1000<=9223372036854775807 / (l.length - 1):=by
      rw [Nat.le_div_iff_mul_le (by omega)];omega
    rw [h2,YS (by omega)];omega
  · rw [YS (x:=((1:Nat):Int) * ((l.length - 1:Nat):Int)) (by omega),YS (by omega)];omega
  rintro _ rfl;refine Runs.callR (R:=fun x=>0<=x/\x<=1000+100000 * 1000) (Runs.loop (fun s=>∃ k:Nat,s.2=(k:Int)/\k<=l.length/\0<=s.1/\s.1<=1000+100000 * (k:Int)) (fun s=>l.length - s.2.toNat) ⟨0,rfl,Nat.zero_le _,by show (0:Int)<=((l.length - 1:Nat):Int);omega,by show ((l.length - 1:Nat):Int)<=_;omega⟩ ?_) ?_
  · rintro ⟨x,_⟩ ⟨k,rfl,hk,h2,h3⟩;dsimp only at h2 h3;unfold QBc;by_cases hlt:k < l.length
    · have h4:=hm _ (List.getElem_mem hlt);refine Runs.bif_t (XK hlt) (Runs.call (Xw hlt) (Runs.bif_f ?_ (Runs.some ⟨⟨k+1,?_,by omega,?_,?_⟩,?_⟩)))
      · rw [YS (by omega)];exact decide_eq_false (by omega)
      · exact Xs k (by omega)
      · show 0<=w64 (x+(l[k].size:Int));rw [YS (by omega)];omega
      · show w64 (x+(l[k].size:Int))<=_;rw [YS (by omega)];omega
      · show l.length - (w64 ((k:Int)+1)).toNat < l.length - ((k:Nat):Int).toNat;rw [Xs k (by omega)];simp;omega
    · have:k=l.length:=by omega
      subst this;refine Runs.bif_f (XL _) (Runs.some ⟨h2,?_⟩);show x<=_;omega
  rintro x ⟨h2,h3⟩;have hg:grw x=some ():=by unfold grw;rw [if_pos (by omega)]
  refine Runs.call hg (Runs.call (Qqg (by omega)) (Runs.call (Zl (by rw [ZK];have:=hm _ (List.getElem_mem (show 0 < l.length by omega));simp;omega)) ?_));have hcut:cut l 1 (l.length:Int)=some (l.drop 1):=Qhe (by omega);refine Runs.call hcut ?_;have hjs:∀ k,k<=l.length->(YK sep (l.take k)).size<=1000 * 100001:=fun k hk=>by
    have:=Qqk (sep:=sep) (m:=100000) (by omega) (l:=l.take k) fun s hs=>hm s (List.mem_of_mem_take hs)
    have h5:(l.take k).length<=1000:=by simp;omega
    exact Nat.le_trans this (Nat.mul_le_mul_right _ h5)
  refine Runs.bind (Runs.mono (Q:=fun xs=>xs=bl (YK sep l)) (Runs.loop (fun s=>∃ k:Nat,s=((k:Int),bl (YK sep (l.take (k+1))))/\k+1<=l.length) (fun s=>l.length - s.1.toNat) ⟨0,?_,by omega⟩ ?_) ?_)
  · have : l.take (0 + 1) = [l[0]'(by omega)] := by
      cases l with
      | nil=>exact absurd rfl h0
      | cons a l=>rfl
    rw [this];rfl
  · rintro _ ⟨k,rfl,hk⟩;unfold QBd;have hdl:(l.drop 1).length=l.length - 1:=by simp
    by_cases hlt:k+1 < l.length
    · have h4:=hm _ (List.getElem_mem hlt);have h5:=hjs (k+1) hk;have h6:((l.drop 1)[k]'(by omega)).size<=100000 := by rw [List.getElem_drop];exact hm _ (List.getElem_mem _)
      have h7:(bl (YK sep (l.take (k+1)))).length+(bl sep).length<=1073741824:=by rw [ZK,ZK,hs];omega
      have h8:(bl (YK sep (l.take (k+1)))++bl sep).length+(bl ((l.drop 1)[k]'(by omega))).length<=1073741824 := by rw [List.length_append, ZK, ZK, ZK, hs];omega
      refine Runs.bif_t (XK (by omega)) (Runs.call (Xw (xs:=l.drop 1) (by omega)) (Runs.call (Zl h7) (Runs.call (Zl h8) (Runs.some ⟨⟨k+1,?_,by omega⟩,?_⟩))))
      · rw [Xs k (by omega),<-Qpd,<-Qpd,<-Qql (List.ne_nil_of_length_pos (by rw [List.length_take];omega))];have:l.take (k+1)++[(l.drop 1)[k]'(by omega)]=l.take (k+1+1) := by
          rw [List.getElem_drop,<-Qiz l (k+1) hlt];simp only [Nat.add_comm]
        rw [this]
      · show l.length - (w64 ((k:Int)+1)).toNat < l.length - ((k:Nat):Int).toNat;rw [Xs k (by omega)];simp;omega
    · refine Runs.bif_f ?_ (Runs.some ?_)
      · have:k=(l.drop 1).length:=by omega
        subst this;exact XL _
      · show bl (YK sep (l.take (k+1)))=_;rw [List.take_of_length_le (by omega)]
  · rintro _ rfl;exact Runs.some (Qyv _)
/-! ### The text -/
noncomputable def X6 (n:Int):ByteArray:=(Qcb n).getD ByteArray.empty
structure DecOk (n:Int):Prop where
 i:Qat n=some (X6 n)
 d:Qcb n=some (X6 n)
 s:(X6 n).size<=20
theorem QEu:∀ n:Fin 100,(match Qat ((n.val:Nat):Int),Qcb ((n.val:Nat):Int) with
  | some a,some b=>decide (a=b)&&decide (a.size<=20)
  | _,_=>false)=true:=by decide +kernel
theorem Qex {n:Int} (h0:0<=n) (h:n < 100):DecOk n:=by
 have:=QEu ⟨n.toNat,by omega⟩;rw [show ((((⟨n.toNat,by omega⟩:Fin 100).val:Nat)):Int)=n by show ((n.toNat:Nat):Int)=n;omega] at this;cases hi:Qat n with
 | none=>rw [hi] at this;cases this
 | some a =>
  cases hd:Qcb n with
  | none=>rw [hi,hd] at this;cases this
  | some b =>
   rw [hi,hd] at this;simp only [Bool.and_eq_true,decide_eq_true_eq] at this;have hb:X6 n=b:=by unfold X6;rw [hd];rfl
   exact ⟨by rw [hb,hi,this.1],by rw [hb,hd],by rw [hb,<-this.1];exact this.2⟩
theorem QIg:Qat 0=some ⟨#[48]⟩:=by decide +kernel
theorem QIh:Qat 1=some ⟨#[49]⟩:=by decide +kernel
def Yf (n:Int):ByteArray:=if n=0 then ⟨#[48]⟩ else if n=1 then ⟨#[49]⟩ else ⟨#[63]⟩
theorem QSq (n:Int):(Yf n).size=1:=by
 unfold Yf;by_cases h:n=0
 ·rw [if_pos h];rfl
 ·rw [if_neg h];by_cases h':n=1
  ·rw [if_pos h'];rfl
  ·rw [if_neg h'];rfl
def Zg (l:List Int):ByteArray:=if YJ (l.map Yf)=ByteArray.mk #[] then ⟨#[45]⟩ else YJ (l.map Yf)
noncomputable def YH (t:Nl):ByteArray:=if t.Ng.length=0/\t.Nk=0 then ⟨#[45]⟩ else X6 t.Nk++⟨#[58]⟩++YK ⟨#[44]⟩ (t.Ng.map X6)
noncomputable def Yy (x:Nf):ByteArray:=YK ⟨#[32]⟩ ([Zg x.Na,X6 x.Ni]++x.Nb.map YH)
structure Told (x:Nf):Prop where
 sw:x.Na.length<=1000
 tr:x.Nb.length<=20
 ct:DecOk x.Ni
 ch:∀ t∈x.Nb,t.Ng.length<=20/\DecOk t.Nk/\∀ s∈t.Ng,DecOk s
theorem Qpk {l:List Int} (h:∀ s∈l,DecOk s):(YK ⟨#[44]⟩ (l.map X6)).size<=l.length * 21:=by
 have:=Qqk (sep:=⟨#[44]⟩) (m:=20) (Nat.le_refl _) (l:=l.map X6) fun s hs=>by
  obtain ⟨n,hn,rfl⟩:=List.mem_map.1 hs;exact (h n hn).s
 simpa using this
theorem Quc {x:Nf} (h:Told x) {t:Nl} (ht:t∈x.Nb):(YH t).size<=500:=by
 obtain ⟨h1,h2,h3⟩:=h.ch t ht;unfold YH;split
 ·decide
 ·rw [ByteArray.size_append,ByteArray.size_append];have:=Qpk h3;have:=h2.s;have e:(ByteArray.mk #[58]).size=1:=rfl;omega
theorem Qpj (l:List Int):(YJ (l.map Yf)).size<=l.length:=by
 have:=QEf (m:=1) (l:=l.map Yf) fun s hs=>by
  obtain ⟨n,_,rfl⟩:=List.mem_map.1 hs;rw [QSq];exact Nat.le_refl _
 simpa using this
theorem QBi {l:List Int} (h:l.length<=1000):(Zg l).size<=1000:=by
 unfold Zg;split
 ·decide
 ·have:=Qpj l;omega
theorem Qwg {x:Nf} (h:Told x):Qic x=some (Yy x):=by
  refine Runs.eq ?_;unfold Qic;refine Runs.callR (R:=fun s=>s=YJ (x.Na.map Yf)) (Runs.loop (fun s=>∃ k:Nat,s=(YJ ((x.Na.take k).map Yf),(k:Int))/\k<=x.Na.length) (fun s=>x.Na.length - s.2.toNat) ⟨0,rfl,Nat.zero_le _⟩ ?_) ?_
  · rintro _ ⟨k,rfl,hk⟩;have hsw:=h.sw;unfold Qzp;by_cases hlt:k < x.Na.length
    · have hz:(YJ ((x.Na.take k).map Yf)).size<=1000:=Nat.le_trans (Qpj (x.Na.take k)) (by rw [List.length_take];omega);have hc:∀ c:ByteArray,Yf x.Na[k]=c->c.size=1->Runs (Option.bind (Zy (YJ ((x.Na.take k).map Yf)) c) fun q=>some (Sum.inl (q,w64 ((k:Int)+1)))) (Rnd (fun s=>∃ k:Nat,s=(YJ ((x.Na.take k).map Yf),(k:Int))/\k<=x.Na.length) (fun s=>x.Na.length - s.2.toNat) (fun s=>s=YJ (x.Na.map Yf)) (YJ ((x.Na.take k).map Yf),(k:Int))):=fun c hc hc2=>by
        refine Runs.call (J8 (by omega)) (Runs.some ⟨⟨k+1,?_,by omega⟩,?_⟩)
        · rw [Xs k (by omega),<-Qbw x.Na Yf k hlt,Qvm,hc]
        · show x.Na.length - (w64 ((k:Int)+1)).toNat < x.Na.length - ((k:Nat):Int).toNat;rw [Xs k (by omega)];simp;omega
      refine Runs.bif_t (XK hlt) (Runs.call (Xw hlt) (Runs.bif (fun h1=>?_) (fun h1=>Runs.bif (fun h2=>?_) (fun h2=>?_))))
      · exact hc _ (by unfold Yf;rw [if_pos (of_decide_eq_true h1)]) rfl
      · exact hc _ (by unfold Yf;rw [if_neg (of_decide_eq_false h1),if_pos (of_decide_eq_true h2)]) rfl
      · exact hc _ (by unfold Yf;rw [if_neg (of_decide_eq_false h1),if_neg (of_decide_eq_false h2)]) rfl
    · have:k=x.Na.length:=by omega
      subst this;refine Runs.bif_f (XL _) (Runs.some ?_);show YJ ((x.Na.take x.Na.length).map Yf)=_;rw [List.take_length]
  rintro _ rfl;refine Runs.callR (R:=fun s=>s=Zg x.Na) ?_ ?_
  · unfold Zg;by_cases e:YJ (x.Na.map Yf)=ByteArray.mk #[]
    · rw [if_pos e];exact Runs.bif_t (decide_eq_true e) (Runs.some rfl)
    · rw [if_neg e];exact Runs.bif_f (decide_eq_false e) (Runs.some rfl)
  rintro _ rfl;have hs1:=QBi h.sw;have hs2:=h.ct.s;have e1:(ByteArray.mk #[32]).size=1:=rfl;have e2:(ByteArray.mk #[58]).size=1:=rfl;have e3:(ByteArray.mk #[44]).size=1:=rfl;have e4:(ByteArray.mk #[45]).size=1:=rfl;refine Runs.call (J8 (by omega)) (Runs.call h.ct.d (Runs.call (J8 (by rw [ByteArray.size_append];omega)) ?_));have hsz:∀ k,k<=x.Nb.length->(YK ⟨#[32]⟩ ([Zg x.Na,X6 x.Ni]++(x.Nb.take k).map YH)).size<=22 * 1001:=fun k hk=>by
    have:=Qqk (sep:=⟨#[32]⟩) (m:=1000) (Nat.le_refl _) (l:=[Zg x.Na,X6 x.Ni]++(x.Nb.take k).map YH) fun s hs=>by
      rcases List.mem_append.1 hs with hs | hs
      · simp at hs;rcases hs with rfl | rfl<;>omega
      · obtain ⟨t,ht,rfl⟩:=List.mem_map.1 hs;have:=Quc h (List.mem_of_mem_take ht);omega
    have h2:=h.tr;have h3:([Zg x.Na,X6 x.Ni]++(x.Nb.take k).map YH).length<=22:=by simp;omega
    exact Nat.le_trans this (Nat.mul_le_mul_right _ h3)
  refine Runs.bind (Runs.mono (Q:=fun s=>s=Yy x) (Runs.loop (fun s=>∃ k:Nat,s=(YK ⟨#[32]⟩ ([Zg x.Na,X6 x.Ni]++(x.Nb.take k).map YH),(k:Int))/\k<=x.Nb.length) (fun s=>x.Nb.length - s.2.toNat) ⟨0,rfl,Nat.zero_le _⟩ ?_) (fun _ e=>Runs.some e));rintro _ ⟨k,rfl,hk⟩;have hz:=hsz k hk;have htr:=h.tr;unfold Qzr;by_cases hlt:k < x.Nb.length
  · have hT:=List.getElem_mem hlt;obtain ⟨c1,c2,c3⟩:=h.ch _ hT;have c2s:=c2.s;have hts:=Quc h hT;have hnext:YK ⟨#[32]⟩ ([Zg x.Na,X6 x.Ni]++(x.Nb.take k).map YH)++⟨#[32]⟩++YH x.Nb[k]=YK ⟨#[32]⟩ ([Zg x.Na,X6 x.Ni]++(x.Nb.take (k+1)).map YH):=by
      rw [<-Qql (by simp),List.append_assoc,Qbw x.Nb YH k hlt]
    have hend:∀ s:ByteArray,s=YK ⟨#[32]⟩ ([Zg x.Na,X6 x.Ni]++(x.Nb.take k).map YH)++⟨#[32]⟩++YH x.Nb[k]->Runs (some (Sum.inl (s,w64 ((k:Int)+1)))) (Rnd (fun s=>∃ k:Nat,s=(YK ⟨#[32]⟩ ([Zg x.Na,X6 x.Ni]++(x.Nb.take k).map YH),(k:Int))/\k<=x.Nb.length) (fun s=>x.Nb.length - s.2.toNat) (fun s=>s=Yy x) (YK ⟨#[32]⟩ ([Zg x.Na,X6 x.Ni]++(x.Nb.take k).map YH),(k:Int))):=fun s hs=>by
      refine Runs.some ⟨⟨k+1,?_,by omega⟩,?_⟩
      · rw [Xs k (by omega),hs,hnext]
      · show x.Nb.length - (w64 ((k:Int)+1)).toNat < x.Nb.length - ((k:Nat):Int).toNat;rw [Xs k (by omega)];simp;omega
    refine Runs.bif_t (XK hlt) (Runs.call (Xw hlt) (Runs.call (J8 (by omega)) ?_));by_cases he:x.Nb[k].Ng.length=0/\x.Nb[k].Nk=0
    · refine Runs.bif_t (by simp [he]) (Runs.call (J8 (by rw [ByteArray.size_append];omega)) (hend _ ?_));unfold YH;rw [if_pos he]
    · refine Runs.bif_f ?_ ?_
      · rw [Bool.and_eq_false_iff,decide_eq_false_iff_not,decide_eq_false_iff_not];omega
      refine Runs.call c2.d (Runs.call (J8 (by rw [ByteArray.size_append];omega)) (Runs.call (J8 (by rw [ByteArray.size_append,ByteArray.size_append];omega)) ?_));refine Runs.callR (R:=fun s=>s=YK ⟨#[32]⟩ ([Zg x.Na,X6 x.Ni]++(x.Nb.take k).map YH)++⟨#[32]⟩++YH x.Nb[k]) ?_ (fun s hs=>hend s hs);generalize hpre:YK ⟨#[32]⟩ ([Zg x.Na,X6 x.Ni]++(x.Nb.take k).map YH)++⟨#[32]⟩++X6 x.Nb[k].Nk++⟨#[58]⟩=pre;have hps:pre.size<=30000:=by rw [<-hpre,ByteArray.size_append,ByteArray.size_append,ByteArray.size_append];omega
      refine Runs.loop (fun s=>∃ j:Nat,s=(pre++YK ⟨#[44]⟩ ((x.Nb[k].Ng.take j).map X6),(j:Int))/\j<=x.Nb[k].Ng.length) (fun s=>x.Nb[k].Ng.length - s.2.toNat) ⟨0,?_,Nat.zero_le _⟩ ?_
      · show (pre,(0:Int))=_;rw [List.take_zero,List.map_nil];show _=(pre++ByteArray.empty,_);rw [ByteArray.append_empty];rfl
      · rintro _ ⟨j,rfl,hj⟩;unfold Qzq;by_cases hjl:j < x.Nb[k].Ng.length
        · have hd:=c3 _ (List.getElem_mem hjl);have hds:=hd.s;have hjs:=Qpk (l:=x.Nb[k].Ng.take j) fun s hs=>c3 s (List.mem_of_mem_take hs)
          have hjl2:(x.Nb[k].Ng.take j).length<=20:=by simp;omega
          refine Runs.bif_t (XK hjl) ?_;have hsn:=Qbw x.Nb[k].Ng X6 j hjl;have hm:x.Nb[k].Ng.length - (w64 ((j:Int)+1)).toNat < x.Nb[k].Ng.length - ((j:Nat):Int).toNat:=by rw [Xs j (by omega)];simp;omega
          by_cases h0:0 < j
          · refine Runs.callR (R:=fun s=>s=pre++YK ⟨#[44]⟩ ((x.Nb[k].Ng.take j).map X6)++⟨#[44]⟩) (Runs.bif_t (by simp;omega) (Runs.call (J8 (by rw [ByteArray.size_append];omega)) (Runs.some rfl))) ?_;rintro _ rfl;refine Runs.call (Xw hjl) (Runs.call hd.d (Runs.call (J8 (by rw [ByteArray.size_append,ByteArray.size_append];omega)) (Runs.some ⟨⟨j+1,?_,by omega⟩,hm⟩)));rw [Xs j (by omega),<-hsn,Qql (List.ne_nil_of_length_pos (by simp;omega))];simp only [ByteArray.append_assoc]
          · have:j=0:=by omega
            subst this;refine Runs.callR (R:=fun s=>s=pre) (Runs.bif_f rfl (Runs.some ?_)) ?_
            · show pre++ByteArray.empty=pre;rw [ByteArray.append_empty]
            rintro _ rfl;refine Runs.call (Xw hjl) (Runs.call hd.d (Runs.call (J8 (by omega)) (Runs.some ⟨⟨0+1,?_,by omega⟩,hm⟩)));rw [<-hsn];rfl
        · have:j=x.Nb[k].Ng.length:=by omega
          subst this;refine Runs.bif_f (XL _) (Runs.some ?_);show pre++YK ⟨#[44]⟩ ((x.Nb[k].Ng.take x.Nb[k].Ng.length).map X6)=_;rw [List.take_length,<-hpre];unfold YH;rw [if_neg he];simp only [ByteArray.append_assoc]
  · have:k=x.Nb.length:=by omega
    subst this;refine Runs.bif_f (XL _) (Runs.some ?_);show YK _ (_++(x.Nb.take x.Nb.length).map YH)=Yy x;rw [List.take_length];rfl
theorem Qwf {x:Nf} (h:Told x):Qfh x=some (Yy x):=by
  refine Runs.eq ?_;unfold Qfh;refine Runs.callR (R:=fun s=>s=bl (YJ (x.Na.map Yf))) (Runs.loop (fun s=>∃ k:Nat,s=((k:Int),bl (YJ ((x.Na.take k).map Yf)))/\k<=x.Na.length) (fun s=>x.Na.length - s.1.toNat) ⟨0,rfl,Nat.zero_le _⟩ ?_) ?_
  · rintro _ ⟨k,rfl,hk⟩;have hsw:=h.sw;unfold Qxa;by_cases hlt:k < x.Na.length
    · have hz:(YJ ((x.Na.take k).map Yf)).size<=1000:=Nat.le_trans (Qpj (x.Na.take k)) (by rw [List.length_take];omega);have hc:∀ c:ByteArray,Yf x.Na[k]=c->c.size=1->Runs (Option.bind (app (bl (YJ ((x.Na.take k).map Yf))) (bl c)) fun q=>some (Sum.inl (w64 ((k:Int)+1),q))) (Rnd (fun s=>∃ k:Nat,s=((k:Int),bl (YJ ((x.Na.take k).map Yf)))/\k<=x.Na.length) (fun s=>x.Na.length - s.1.toNat) (fun s=>s=bl (YJ (x.Na.map Yf))) ((k:Int),bl (YJ ((x.Na.take k).map Yf)))):=fun c hc hc2=>by
        refine Runs.call (Zl (by rw [ZK,ZK];omega)) (Runs.some ⟨⟨k+1,?_,by omega⟩,?_⟩)
        · rw [Xs k (by omega),<-Qbw x.Na Yf k hlt,Qvm,hc,Qpd]
        · show x.Na.length - (w64 ((k:Int)+1)).toNat < x.Na.length - ((k:Nat):Int).toNat;rw [Xs k (by omega)];simp;omega
      refine Runs.bif_t (XK hlt) (Runs.call (Xw hlt) (Runs.bif (fun h1=>?_) (fun h1=>Runs.bif (fun h2=>?_) (fun h2=>?_))))
      · have e:=of_decide_eq_true h1;refine Runs.bif_t h1 ?_;rw [e];exact Runs.call QIg (hc _ (by unfold Yf;rw [if_pos e]) rfl)
      · have e:=of_decide_eq_true h2;rw [e];exact Runs.call QIh (hc _ (by unfold Yf;rw [if_neg (of_decide_eq_false h1),if_pos e]) rfl)
      · exact hc _ (by unfold Yf;rw [if_neg (of_decide_eq_false h1),if_neg (of_decide_eq_false h2)]) rfl
    · have:k=x.Na.length:=by omega
      subst this;refine Runs.bif_f (XL _) (Runs.some ?_);show bl (YJ ((x.Na.take x.Na.length).map Yf))=_;rw [List.take_length]
  rintro _ rfl;refine Runs.callR (R:=fun l=>l=[YJ (x.Na.map Yf),X6 x.Ni]) (Runs.call h.ct.i (Runs.some (by rw [Qyv]))) ?_;rintro _ rfl;refine Runs.call (b:=YJ (x.Na.map Yf)) rfl (Runs.callR (R:=fun l=>l=[Zg x.Na,X6 x.Ni]) ?_ ?_)
  · unfold Zg;by_cases e:YJ (x.Na.map Yf)=ByteArray.mk #[]
    · rw [if_pos e];exact Runs.bif_t (decide_eq_true e) (Runs.call (b:=YJ (x.Na.map Yf)) rfl (Runs.some rfl))
    · rw [if_neg e];exact Runs.bif_f (decide_eq_false e) (Runs.some rfl)
  rintro _ rfl;have htr:=h.tr;have hs1:=QBi h.sw;have hs2:=h.ct.s;refine Runs.callR (R:=fun l=>l=[Zg x.Na,X6 x.Ni]++x.Nb.map YH) (Runs.loop (fun s=>∃ k:Nat,s=([Zg x.Na,X6 x.Ni]++(x.Nb.take k).map YH,(k:Int))/\k<=x.Nb.length) (fun s=>x.Nb.length - s.2.toNat) ⟨0,rfl,Nat.zero_le _⟩ ?_) ?_
  · rintro _ ⟨k,rfl,hk⟩;unfold Qxc;by_cases hlt:k < x.Nb.length
    · have hT:=List.getElem_mem hlt;obtain ⟨c1,c2,c3⟩:=h.ch _ hT;have c2s:=c2.s;have hm:x.Nb.length - (w64 ((k:Int)+1)).toNat < x.Nb.length - ((k:Nat):Int).toNat:=by rw [Xs k (by omega)];simp;omega
      have hnext:∀ c,c=YH x.Nb[k]->([Zg x.Na,X6 x.Ni]++(x.Nb.take k).map YH)++[c]=[Zg x.Na,X6 x.Ni]++(x.Nb.take (k+1)).map YH:=fun c hc=>by
        rw [hc,List.append_assoc,Qbw x.Nb YH k hlt]
      refine Runs.bif_t (XK hlt) (Runs.call (Xw hlt) ?_);by_cases he:x.Nb[k].Ng.length=0/\x.Nb[k].Nk=0
      · refine Runs.bif_t (by simp [he]) (Runs.call (Zl (by simp;omega)) (Runs.some ⟨⟨k+1,?_,by omega⟩,hm⟩));rw [Xs k (by omega),hnext _ (by unfold YH;rw [if_pos he])]
      · refine Runs.bif_f ?_ ?_
        · rw [Bool.and_eq_false_iff,decide_eq_false_iff_not,decide_eq_false_iff_not];omega
        refine Runs.callR (R:=fun l=>l=x.Nb[k].Ng.map X6) (Runs.loop (fun s=>∃ j:Nat,s=((x.Nb[k].Ng.take j).map X6,(j:Int))/\j<=x.Nb[k].Ng.length) (fun s=>x.Nb[k].Ng.length - s.2.toNat) ⟨0,rfl,Nat.zero_le _⟩ ?_) ?_
        · rintro _ ⟨j,rfl,hj⟩;unfold Qxb;by_cases hjl:j < x.Nb[k].Ng.length
          · have hd:=c3 _ (List.getElem_mem hjl);refine Runs.bif_t (XK hjl) (Runs.call (Xw hjl) (Runs.call hd.i (Runs.call (Zl (by simp;omega)) (Runs.some ⟨⟨j+1,by rw [Xs j (by omega),Qbw x.Nb[k].Ng X6 j hjl],by omega⟩,?_⟩))));show x.Nb[k].Ng.length - (w64 ((j:Int)+1)).toNat < x.Nb[k].Ng.length - ((j:Nat):Int).toNat;rw [Xs j (by omega)];simp;omega
          · have:j=x.Nb[k].Ng.length:=by omega
            subst this;refine Runs.bif_f (XL _) (Runs.some ?_);show (x.Nb[k].Ng.take x.Nb[k].Ng.length).map X6=_;rw [List.take_length]
        rintro _ rfl;have hcs:=Qpk c3;have hjo:Qgf (x.Nb[k].Ng.map X6) (ByteArray.mk #[44])=some (YK ⟨#[44]⟩ (x.Nb[k].Ng.map X6)):=Qwt rfl (by simp;omega) fun s hs=>by
          obtain ⟨n,hn,rfl⟩:=List.mem_map.1 hs;have:=(c3 n hn).s;omega
        have e2:(ByteArray.mk #[58]).size=1:=rfl;refine Runs.call c2.i (Runs.call (J8 (by omega)) (Runs.call hjo (Runs.call (J8 (by rw [ByteArray.size_append];omega)) (Runs.call (Zl (by simp;omega)) (Runs.some ⟨⟨k+1,?_,by omega⟩,hm⟩)))));rw [Xs k (by omega),hnext _ (by unfold YH;rw [if_neg he])]
    · have:k=x.Nb.length:=by omega
      subst this;refine Runs.bif_f (XL _) (Runs.some ?_);show [Zg x.Na,X6 x.Ni]++(x.Nb.take x.Nb.length).map YH=_;rw [List.take_length]
  rintro _ rfl;refine Runs.call (Qwt rfl (by simp;omega) fun s hs=>?_) (Runs.some rfl);rcases List.mem_append.1 hs with hs | hs
  · simp at hs;rcases hs with rfl | rfl<;>omega
  · obtain ⟨t,ht,rfl⟩:=List.mem_map.1 hs;have:=Quc h ht;omega
end Go.Gw

end
section
set_option maxRecDepth 4096
set_option linter.unusedVariables false
namespace Go.Gw
open Go
attribute [local irreducible] loop
theorem Qub {p:Nd} (hp:PlantOk p) {x:Nf} (h:StateOk p x) (hc:DecOk x.Ni):Told x:=by
 refine ⟨by have:=h.sw;have:=hp.w4;omega,by have:=h.tr;have:=hp.t3;omega,hc,fun t ht=>?_⟩;have h1:=h.len ht;have h2:=hp.s8;refine ⟨by omega,?_,fun s hs=>?_⟩
 ·rcases h.un t ht with ⟨_,h3⟩ | ⟨h3,h4⟩
  ·exact Qex (by omega) (by omega)
  ·exact Qex (by omega) (by omega)
 ·have:=h.sc t ht s hs;unfold YZ at this;simp at this;exact Qex (by omega) (by omega)
theorem Qtk (p:Nd) (x:Nf) (e:Nj):(Ye p x e).Ni=x.Ni:=by
 unfold Ye;split<;>rfl
noncomputable def Yj (acc:List Nf×List ByteArray) (y:Nf):List Nf×List ByteArray:=if YL acc.2 (Yy y)=true then acc else (acc.1++[y],acc.2++[Yy y])
theorem Qdl:∀ (ys:List Nf) (acc:List Nf×List ByteArray),∃ z:List Nf,ys.foldl Yj acc=(acc.1++z,acc.2++z.map Yy)/\z.length<=ys.length/\∀ x∈z,x∈ys
 | [],acc=>⟨[],by simp,Nat.le_refl _,fun x h=>h⟩
 | y::ys,acc=>by
  rw [List.foldl_cons];unfold Yj;by_cases h:YL acc.2 (Yy y)=true
  ·rw [if_pos h];obtain ⟨z,h1,h2,h3⟩:=Qdl ys acc;unfold Yj at h1;exact ⟨z,h1,by simp;omega,fun x hx=>List.mem_cons_of_mem _ (h3 x hx)⟩
  ·rw [if_neg h];obtain ⟨z,h1,h2,h3⟩:=Qdl ys (acc.1++[y],acc.2++[Yy y]);unfold Yj at h1;refine ⟨y::z,by rw [h1];simp,by simp;omega,fun x hx=>?_⟩;rcases List.mem_cons.1 hx with rfl | hx
   ·exact List.mem_cons_self ..
   ·exact List.mem_cons_of_mem _ (h3 x hx)
def Zf (p:Nd) (x:Nf):List Nf:=(Y4 p x).map (Ye p x)
noncomputable def rnd (p:Nd) (new:List Nf) (keys:List ByteArray):List Nf×List ByteArray:=(new.flatMap (Zf p)).foldl Yj ([],keys)
theorem QBh {p:Nd} (hp:PlantOk p) (x:Nf):(Zf p x).length<=280:=by
 unfold Zf Y4;rw [List.length_map];exact Nat.le_trans (List.length_filter_le _ _) (Qwd hp)
theorem Qkh {p:Nd} (hp:PlantOk p):∀ new:List Nf,(new.flatMap (Zf p)).length<=new.length * 280
 | []=>Nat.le_refl _
 | x::l=>by
  have h1:=Qkh hp l;have h2:=QBh hp x;rw [List.flatMap_cons,List.length_append,List.length_cons,Nat.succ_mul];omega
def Qgp (p:Nd) (c:Int) (l:List Nf):Prop:=∀ x∈l,StateOk p x/\x.Ni=c
theorem QSo {p:Nd} (hp:PlantOk p) {c:Int} {l:List Nf} (h:Qgp p c l):Qgp p c (l.flatMap (Zf p)):=fun y hy=>by
 obtain ⟨x,hx,hy⟩:=List.mem_flatMap.1 hy;obtain ⟨e,he,rfl⟩:=List.mem_map.1 hy;obtain ⟨h1,h2⟩:=h x hx;unfold Y4 at he;rw [List.mem_filter] at he;exact ⟨Qtl hp h1 (Qpu he.1) (of_decide_eq_true he.2),by rw [Qtk,h2]⟩
noncomputable def Qad (p:Nd):Nat->List Nf->List ByteArray->Nat×Bool
 | 0,_,_=>(0,false)
 | n+1,new,keys=>if new=[] then (keys.length,true) else if 2000 < keys.length then (0,false) else Qad p n (rnd p new keys).1 (rnd p new keys).2
def Qbr (new:List Nf) (keys:List ByteArray):Nat:=2 * (2002 - keys.length)+(if new=[] then 0 else 1)
structure SrchOk (p:Nd) (c:Int) (new:List Nf) (keys:List ByteArray):Prop where
 ok:Qgp p c new
 nl:new.length<=keys.length
 kl:keys.length<=600000
 e:new=[]->keys.length<=2000
theorem SrchOk.rnd {p:Nd} (hp:PlantOk p) {c:Int} {new:List Nf} {keys:List ByteArray} (h:SrchOk p c new keys) (hn:new≠[]) (hk:keys.length<=2000):SrchOk p c (rnd p new keys).1 (rnd p new keys).2/\Qbr (Gw.rnd p new keys).1 (Gw.rnd p new keys).2 < Qbr new keys/\∃ z,Gw.rnd p new keys=(z,keys++z.map Yy)/\z.length<=560000:=by
 obtain ⟨z,h1,h2,h3⟩:=Qdl (new.flatMap (Zf p)) ([],keys);have h4:Gw.rnd p new keys=(z,keys++z.map Yy):=by unfold Gw.rnd;rw [h1];simp
 have h5:=Qkh hp new;have h6:=h.nl;have h7:z.length<=560000:=by omega
 rw [h4];refine ⟨⟨fun x hx=>QSo hp h.ok x (h3 x hx),by simp,by simp;omega,fun e=>by subst e;simpa using hk⟩,?_,z,rfl,h7⟩;unfold Qbr;rw [if_neg hn];by_cases hz:z=[]
 ·subst hz;simp
 ·rw [if_neg hz];have:0 < z.length:=List.length_pos_iff.2 hz;simp;omega
/-! ### By the reference -/
theorem QHx (l:List ByteArray) (s:ByteArray) (hl:l.length < 1000000):Qjs l s=some (YL l s):=by
 unfold Qjs;rw [ZB l (fun x=>decide (x=s)) (fun _ _=>true),Qt]
 ·rcases JI (p:=fun x=>decide (x=s)) (res:=fun _ _=>true) l 0 with ⟨k1,k2⟩ | ⟨j,x,k1,k2,k3⟩
  ·rw [k1,<-Qlo,k2];rfl
  ·rw [k1,<-Qlo,k3];rfl
 ·intro k hk;unfold Qox;rw [XK hk,Xw hk,Xs k (by omega)];rfl
 ·unfold Qox;rw [XL];rfl
theorem QHh {α:Type} (q:α->Bool) (l:List α) (k:Nat) (hk:k < l.length):(l.take (k+1)).filter q=(l.take k).filter q++(if q l[k]=true then [l[k]] else []):=by
 rw [<-Qiz l k hk,List.filter_append];congr 1;simp [List.filter_cons]
theorem QPb {p:Nd} (hS:PlantS p) (hp:PlantOk p) {all0:List Nf} {i:Nat} (hi:i < all0.length) {c:Int} (hc:DecOk c) (hok:StateOk p all0[i]) (hcn:all0[i].Ni=c) (acc0:List Nf×List ByteArray) (hl0:all0.length+acc0.1.length<=800000) (hl1:acc0.2.length<=800000) :
  loop (Qsp p (Ya p) i) (all0++acc0.1,acc0.2,0)=some (all0++((Zf p all0[i]).foldl Yj acc0).1,((Zf p all0[i]).foldl Yj acc0).2):=by
 have hel:=Qwd hp;refine Runs.eq (Runs.loop (fun s=>∃ k:Nat,k<=(Ya p).length/\s=(all0++(((((Ya p).take k).filter fun e=>decide (Y5 p all0[i] e=0)).map (Ye p all0[i])).foldl Yj acc0).1,(((((Ya p).take k).filter fun e=>decide (Y5 p all0[i] e=0)).map (Ye p all0[i])).foldl Yj acc0).2,(k:Int))) (fun s=>(Ya p).length - s.2.2.toNat) ⟨0,Nat.zero_le _,rfl⟩ ?_);rintro _ ⟨k,hk,rfl⟩;obtain ⟨z,hz,hzl,hzm⟩:=Qdl ((((Ya p).take k).filter fun e=>decide (Y5 p all0[i] e=0)).map (Ye p all0[i])) acc0;have hzl2:z.length<=280:=by
  refine Nat.le_trans hzl ?_;rw [List.length_map];exact Nat.le_trans (List.length_filter_le _ _) (by rw [List.length_take];omega)
 unfold Qsp;by_cases hlt:k < (Ya p).length
 ·have hm:(Ya p).length - (w64 ((k:Int)+1)).toNat < (Ya p).length - ((k:Nat):Int).toNat:=by rw [Xs k (by omega)];simp;omega
  have he:=Qpu (List.getElem_mem hlt);refine Runs.bif_t (XK hlt) ?_;have hget:∀ r:List Nf,idx (all0++r) (i:Int)=some all0[i]:=fun r=>by
   rw [Xw?,List.getElem?_append_left hi,List.getElem?_eq_getElem hi]
  have hsn:=QHh (fun e=>decide (Y5 p all0[i] e=0)) (Ya p) k hlt;by_cases hst:Y5 p all0[i] (Ya p)[k]=0
  ·rw [if_pos (decide_eq_true hst)] at hsn;refine Runs.callR (R:=fun r=>r=(0,(Ye p all0[i] (Ya p)[k]).Na,(Ye p all0[i] (Ya p)[k]).Nb,(Ye p all0[i] (Ya p)[k]).Ni)) (Runs.call (hget _) (Runs.call (Xw hlt) (Runs.call (Qzk hp hok he) (Runs.some (by rw [if_pos hst]))))) ?_;rintro _ rfl;have hy:=Qtl hp hok he hst;have hcy:(Ye p all0[i] (Ya p)[k]).Ni=c:=by rw [Qtk,hcn]
   have hT:=Qub hp hy (by rw [hcy];exact hc);generalize hgy:Ye p all0[i] (Ya p)[k]=y at hy hcy hT;refine Runs.bif_f rfl (Runs.call (Qwg hT) ?_);have hnext:(((((Ya p).take (k+1)).filter fun e=>decide (Y5 p all0[i] e=0)).map (Ye p all0[i])).foldl Yj acc0)=Yj (((((Ya p).take k).filter fun e=>decide (Y5 p all0[i] e=0)).map (Ye p all0[i])).foldl Yj acc0) y:=by
    rw [hsn,List.map_append,List.foldl_append];simp [hgy]
   rw [hz] at hnext ⊢;dsimp only;refine Runs.call (QHx _ _ (by simp;omega)) (Runs.bif (fun hn=>?_) (fun hn=>?_))
   ·have hn2:YL (acc0.2++z.map Yy) (Yy y)=false:=by simpa using hn
    refine Runs.call (Zl (by simp;omega)) (Runs.call (Zl (by simp;omega)) (Runs.some ⟨⟨k+1,by omega,?_⟩,hm⟩));rw [hnext,Xs k (by omega)];unfold Yj;rw [if_neg (by rw [hn2];exact Bool.false_ne_true)];simp only [List.append_assoc]
   ·have hn2:YL (acc0.2++z.map Yy) (Yy y)=true:=by simpa using hn
    refine Runs.some ⟨⟨k+1,by omega,?_⟩,hm⟩;rw [hnext,Xs k (by omega)];unfold Yj;rw [if_pos hn2]
  ·rw [if_neg (by rw [decide_eq_false hst];exact Bool.false_ne_true),List.append_nil] at hsn;refine Runs.callR (R:=fun r=>r.1≠0) (Runs.call (hget _) (Runs.call (Xw hlt) (Runs.call (Qzk hp hok he) (Runs.some (by rw [if_neg hst];exact hst))))) ?_;rintro ⟨r1,r2,r3,r4⟩ hr;refine Runs.bif_t (by rw [decide_eq_false hr];rfl) (Runs.some ⟨⟨k+1,by omega,?_⟩,hm⟩);rw [hsn,Xs k (by omega)]
 ·have:k=(Ya p).length:=by omega
  subst this;refine Runs.bif_f (XL _) (Runs.some ?_);rw [List.take_length];rfl
theorem Qqb {p:Nd} (l:List Nf) (k:Nat) (hk:k < l.length) (acc:List Nf×List ByteArray):((l.take (k+1)).flatMap (Zf p)).foldl Yj acc=(Zf p l[k]).foldl Yj (((l.take k).flatMap (Zf p)).foldl Yj acc):=by
 rw [<-Qiz l k hk,List.flatMap_append,List.foldl_append];simp
theorem QPc {p:Nd} (hS:PlantS p) (hp:PlantOk p) {all0:List Nf} {f:Nat} {c:Int} (hc:DecOk c) {keys:List ByteArray} (hf:f<=all0.length) (hok:Qgp p c (all0.drop f)) (hl:all0.length<=2000) (hk:keys.length<=2000) :
  loop (Qsq p all0) (all0,keys,(f:Int))=some (all0++(rnd p (all0.drop f) keys).1,(rnd p (all0.drop f) keys).2):=by
 refine Runs.eq (Runs.loop (fun s=>∃ k:Nat,f+k<=all0.length/\s=(all0++((((all0.drop f).take k).flatMap (Zf p)).foldl Yj ([],keys)).1,((((all0.drop f).take k).flatMap (Zf p)).foldl Yj ([],keys)).2,((f+k:Nat):Int))) (fun s=>all0.length - s.2.2.toNat) ⟨0,hf,by simp⟩ ?_);rintro _ ⟨k,hk2,rfl⟩;unfold Qsq;by_cases hlt:f+k < all0.length
 ·have hm:all0.length - (w64 (((f+k:Nat):Int)+1)).toNat < all0.length - ((f+k:Nat):Int).toNat:=by rw [Xs (f+k) (by omega)];simp;omega
  obtain ⟨z,hz,hzl,_⟩:=Qdl (((all0.drop f).take k).flatMap (Zf p)) ([],keys);have hz2:=Qkh hp ((all0.drop f).take k);have hz3:((all0.drop f).take k).length<=2000:=by simp;omega
  have hin:all0[f+k]∈all0.drop f:=by
   rw [List.mem_iff_getElem];exact ⟨k,by simp;omega,by rw [List.getElem_drop]⟩
  obtain ⟨h1,h2⟩:=hok _ hin;refine Runs.bif_t (XK hlt) (Runs.call (QPa hS hp) (Runs.call (QPb hS hp hlt hc h1 h2 _ ?_ ?_) (Runs.some ⟨⟨k+1,by omega,?_⟩,hm⟩)))
  ·rw [hz];simp;omega
  ·rw [hz];simp;omega
  ·have:=Qqb (p:=p) (all0.drop f) k (by simp;omega) ([],keys);rw [List.getElem_drop] at this;rw [this,Xs (f+k) (by omega)];rfl
 ·have:f+k=all0.length:=by omega
  rw [this];refine Runs.bif_f (XL _) (Runs.some ?_);rw [List.take_of_length_le (by simp;omega)];rfl
theorem QPd {p:Nd} (hS:PlantS p) (hp:PlantOk p) {c:Int} (hc:DecOk c):∀ (n:Nat) (all0:List Nf) (keys:List ByteArray) (f:Nat),f<=all0.length->all0.length=keys.length->SrchOk p c (all0.drop f) keys->Qbr (all0.drop f) keys < n ->
    ∃ o,loop (Qfv p) (all0,keys,(f:Int))=some o/\((XA o fun (x:List Nf)=>some ((x.length:Int),true))=some (((Qad p n (all0.drop f) keys).1:Int),(Qad p n (all0.drop f) keys).2)):=by
  intro n
  induction n with
  | zero=>intro all0 keys f _ _ _ h;omega
  | succ n ih =>
    intro all0 keys f hf hlen h hmeas;unfold Qad;by_cases hlt:f < all0.length
    · have hne:all0.drop f≠[]:=List.ne_nil_of_length_pos (by rw [List.length_drop];omega);rw [if_neg hne];by_cases hbig:2000 < keys.length
      · rw [if_pos hbig];refine ⟨.inl (0,false),JW ?_,rfl⟩;unfold Qfv;dsimp only;rw [XK hlt,cond_true,decide_eq_true (by omega),cond_true]
      · rw [if_neg hbig];obtain ⟨h1,h2,z,hz,hzl⟩:=h.rnd hp hne (by omega);have hs:Qfv p (all0,keys,(f:Int))=some (.inl (all0++z,keys++z.map Yy,(all0.length:Int))):=by
          unfold Qfv;dsimp only;rw [XK hlt,cond_true,decide_eq_false (by omega),cond_false,QPc hS hp hc hf h.ok (by omega) (by omega),hz];rfl
        rw [Qao hs];have hd:(all0++z).drop all0.length=z:=by simp
        have:=ih (all0++z) (keys++z.map Yy) all0.length (by simp) (by simp;omega) (by rw [hd];rw [hz] at h1;exact h1) (by rw [hd];rw [hz] at h2;dsimp only at h2;omega);rw [hd] at this;rw [hz];exact this
    · have hnil:all0.drop f=[]:=by rw [List.drop_eq_nil_iff];omega
      rw [if_pos hnil];refine ⟨.inr all0,JW ?_,?_⟩
      · have:f=all0.length:=by omega
        subst this;unfold Qfv;dsimp only;rw [XL];rfl
      · show some _=some _;rw [hlen]
def Qdv:Nat:=5000
theorem Qvg {p:Nd} (hp:PlantOk p):Told (YE p):=Qub hp Qve (Qex (Int.le_refl _) (by show (0:Int) < 100;omega))
theorem Qvf {p:Nd}:SrchOk p 0 [YE p] [Yy (YE p)]:=⟨fun x hx=>by simp at hx;subst hx;exact ⟨Qve,rfl⟩,Nat.le_refl _,by simp,fun h=>by cases h⟩
theorem QPe {p:Nd} (hS:PlantS p) (hp:PlantOk p):Qmk p=some (((Qad p Qdv [YE p] [Yy (YE p)]).1:Int),(Qad p Qdv [YE p] [Yy (YE p)]).2):=by
 unfold Qmk;rw [QOx hS,Qt,show idx [YE p] 0=some (YE p) from rfl,Qt,Qwg (Qvg hp),Qt];obtain ⟨o,h1,h2⟩:=QPd hS hp (Qex (n:=0) (Int.le_refl _) (by omega)) Qdv [YE p] [Yy (YE p)] 0 (Nat.zero_le _) rfl Qvf (by show Qbr [YE p] _ < 5000;unfold Qbr;simp);rw [show ((0:Nat):Int)=0 from rfl] at h1;rw [h1,Qt];exact h2
/-! ### By the program -/
def lns (ns:List (Option Ns)):List (Option Nt):=ns.map fun o=>o.bind Ns.line
def LinesOf (p:Nd) (ns:List (Option Ns)) (xs:List Nf):Prop:=lns ns=xs.map fun x=>some ⟨p,x⟩
theorem LinesOf.len {p:Nd} {ns:List (Option Ns)} {xs:List Nf} (h:LinesOf p ns xs):ns.length=xs.length:=by
 have:=congrArg List.length h;simpa [lns] using this
theorem LinesOf.snoc {p:Nd} {ns:List (Option Ns)} {xs:List Nf} (h:LinesOf p ns xs) {nd:Ns} {y:Nf} (hn:nd.line=some ⟨p,y⟩):LinesOf p (ns++[some nd]) (xs++[y]):=by
 unfold LinesOf lns at h ⊢;rw [List.map_append,List.map_append,h];simp [hn]
theorem QBa {p:Nd} (hp:PlantOk p):∀ {ns:List (Option Ns)} {xs:List Nf},LinesOf p ns xs->(∀ x∈xs,StateOk p x)->Qcr ns=some (xs.map fun x=>Y6 p x (Ya p))
 | [],xs,h,_=>by
  have:xs=[]:=List.length_eq_zero_iff.1 h.len.symm;subst this;rfl
 | o::ns,[],h,_=>by have:=h.len;simp at this
 | o::ns,x::xs,h,hok=>by
  unfold LinesOf lns at h;rw [List.map_cons,List.map_cons] at h;obtain ⟨h1,h2⟩:=List.cons.inj h;cases o with
  | none=>cases h1
  | some nd =>
   have h1:nd.line=some ⟨p,x⟩:=h1;unfold Qcr;rw [Qt,h1,QOq hp (hok x (List.mem_cons_self ..)),Qt,QBa hp (ns:=ns) (xs:=xs) h2 (fun y hy=>hok y (List.mem_cons_of_mem _ hy))];rfl
theorem QAz (p:Nd) (x:Nf):Y6 p x (Ya p)=(Y4 p x).map fun e=>Nr.mk e (some ⟨p,Ye p x e⟩):=rfl
theorem QIk {p:Nd} (hp:PlantOk p) {x:Nf} (hok:StateOk p x) (hc:DecOk x.Ni) {was:List (Option Ns)} {i:Nat} (hi:i < was.length) (acc0:List Nf×List ByteArray) (ns0:List (Option Ns)) (hl:LinesOf p ns0 acc0.1) (h8:acc0.1.length<=800000) :
  ∃ ns1,loop (Qkz (Y6 p x (Ya p)) was i) (0,ns0,acc0.2)=some (ns1,((Zf p x).foldl Yj acc0).2)/\LinesOf p ns1 ((Zf p x).foldl Yj acc0).1:=by
 have hel:(Y4 p x).length<=280:=by have:=QBh hp x;unfold Zf at this;rwa [List.length_map] at this
 have key:Runs (loop (Qkz (Y6 p x (Ya p)) was i) (0,ns0,acc0.2)) (fun r=>r.2=((Zf p x).foldl Yj acc0).2/\LinesOf p r.1 ((Zf p x).foldl Yj acc0).1):=by
  refine Runs.loop (fun s=>∃ (k:Nat) (ns:List (Option Ns)),k<=(Y4 p x).length/\s=((k:Int),ns,((((Y4 p x).take k).map (Ye p x)).foldl Yj acc0).2)/\LinesOf p ns ((((Y4 p x).take k).map (Ye p x)).foldl Yj acc0).1) (fun s=>(Y4 p x).length - s.1.toNat) ⟨0,ns0,Nat.zero_le _,rfl,hl⟩ ?_;rintro _ ⟨k,ns,hk,rfl,hln⟩;obtain ⟨z,hz,hzl,hzm⟩:=Qdl (((Y4 p x).take k).map (Ye p x)) acc0;have hzl2:z.length<=280:=Nat.le_trans hzl (by rw [List.length_map,List.length_take];omega);unfold Qkz;have hsl:(Y6 p x (Ya p)).length=(Y4 p x).length:=by rw [QAz,List.length_map]
  by_cases hlt:k < (Y4 p x).length
  ·have hm:(Y4 p x).length - (w64 ((k:Int)+1)).toNat < (Y4 p x).length - ((k:Nat):Int).toNat:=by rw [Xs k (by omega)];simp;omega
   have hmem:=List.getElem_mem hlt;have hmem2:(Y4 p x)[k]∈Ya p/\decide (Y5 p x (Y4 p x)[k]=0)=true:=List.mem_filter.1 hmem;have hst:=of_decide_eq_true hmem2.2;have hy:=Qtl hp hok (Qpu hmem2.1) hst;have hT:=Qub hp hy (by rw [Qtk];exact hc);have hnext:((((Y4 p x).take (k+1)).map (Ye p x)).foldl Yj acc0)=Yj ((((Y4 p x).take k).map (Ye p x)).foldl Yj acc0) (Ye p x (Y4 p x)[k]):=by
    rw [<-Qbw (Y4 p x) (Ye p x) k hlt,List.foldl_append];rfl
   have hidx:idx (Y6 p x (Ya p)) (k:Int)=some (Nr.mk (Y4 p x)[k] (some ⟨p,Ye p x (Y4 p x)[k]⟩)):=by
    rw [Xw?,QAz,List.getElem?_map,List.getElem?_eq_getElem hlt];rfl
   generalize hgy:Ye p x (Y4 p x)[k]=y at hy hT hnext hidx;rw [hz] at hnext hln ⊢;refine Runs.bif_t (by rw [hsl];exact XK hlt) (Runs.call hidx (Runs.call rfl (Runs.call (Qwf hT) (Runs.bif (fun hn=>?_) (fun hn=>?_)))))
   ·have hn2:YL (acc0.2++z.map Yy) (Yy y)=false:=by simpa using hn
    have hll:=hln.len;refine Runs.call (Xw hi) (Runs.call (Zl (by simp at hll ⊢;omega)) (Runs.some ⟨⟨k+1,ns++[some (Ns.mk (some ⟨p,y⟩) Opq.mk (Y4 p x)[k])],by omega,?_,?_⟩,hm⟩))
    ·rw [hnext,Xs k (by omega)];unfold Yj ZW;rw [if_neg (by rw [hn2];exact Bool.false_ne_true),if_neg (by rw [hn2];exact Bool.false_ne_true)]
    ·rw [hnext];unfold Yj;rw [if_neg (by rw [hn2];exact Bool.false_ne_true)];exact hln.snoc rfl
   ·have hn2:YL (acc0.2++z.map Yy) (Yy y)=true:=by simpa using hn
    refine Runs.some ⟨⟨k+1,ns,by omega,?_,?_⟩,hm⟩
    ·rw [hnext,Xs k (by omega)];unfold Yj;rw [if_pos hn2]
    ·rw [hnext];unfold Yj;rw [if_pos hn2];exact hln
  ·have:k=(Y4 p x).length:=by omega
   subst this;refine Runs.bif_f (by rw [hsl];exact XL _) (Runs.some ?_);rw [List.take_length] at hln ⊢;exact ⟨rfl,hln⟩
 obtain ⟨⟨ns1,keys1⟩,h1,h2,h3⟩:=key;exact ⟨ns1,by rw [h1];dsimp only at h2;rw [h2],h3⟩
theorem QIl {p:Nd} (hp:PlantOk p) {c:Int} (hc:DecOk c) {ns:List (Option Ns)} {xs:List Nf} (hl:LinesOf p ns xs) (hok:Qgp p c xs) (h2:xs.length<=2000) (keys:List ByteArray) :
  ∃ ns1,loop (Qla (xs.map fun x=>Y6 p x (Ya p)) ns) (0,[],keys)=some (ns1,(rnd p xs keys).2)/\LinesOf p ns1 (rnd p xs keys).1:=by
 have hlen:=hl.len;have key:Runs (loop (Qla (xs.map fun x=>Y6 p x (Ya p)) ns) (0,[],keys)) (fun r=>r.2=(rnd p xs keys).2/\LinesOf p r.1 (rnd p xs keys).1):=by
  refine Runs.loop (fun s=>∃ (k:Nat) (ms:List (Option Ns)),k<=xs.length/\s=((k:Int),ms,(((xs.take k).flatMap (Zf p)).foldl Yj ([],keys)).2)/\LinesOf p ms (((xs.take k).flatMap (Zf p)).foldl Yj ([],keys)).1) (fun s=>xs.length - s.1.toNat) ⟨0,[],Nat.zero_le _,rfl,rfl⟩ ?_;rintro _ ⟨k,ms,hk,rfl,hln⟩;unfold Qla;have hml:(xs.map fun x=>Y6 p x (Ya p)).length=xs.length:=by simp
  by_cases hlt:k < xs.length
  ·have hm:xs.length - (w64 ((k:Int)+1)).toNat < xs.length - ((k:Nat):Int).toNat:=by rw [Xs k (by omega)];simp;omega
   obtain ⟨h3,h4⟩:=hok _ (List.getElem_mem hlt);obtain ⟨z,hz,hzl,_⟩:=Qdl ((xs.take k).flatMap (Zf p)) ([],keys);have hz2:=Qkh hp (xs.take k);have hz3:(xs.take k).length<=2000:=by simp;omega
   obtain ⟨ns1,h5,h6⟩:=QIk hp h3 (by rw [h4];exact hc) (was:=ns) (i:=k) (by omega) (((xs.take k).flatMap (Zf p)).foldl Yj ([],keys)) ms hln (by rw [hz];simp;omega);refine Runs.bif_t (by rw [hml];exact XK hlt) (Runs.call (b:=Y6 p xs[k] (Ya p)) (by rw [Xw?,List.getElem?_map,List.getElem?_eq_getElem hlt];rfl) (Runs.call h5 (Runs.some ⟨⟨k+1,ns1,by omega,?_,?_⟩,hm⟩)))
   ·rw [Qqb xs k hlt,Xs k (by omega)]
   ·rw [Qqb xs k hlt];exact h6
  ·have:k=xs.length:=by omega
   subst this;refine Runs.bif_f (by rw [hml];exact XL _) (Runs.some ?_);rw [List.take_length] at hln ⊢;exact ⟨rfl,hln⟩
 obtain ⟨⟨ns1,keys1⟩,h1,h2,h3⟩:=key;exact ⟨ns1,by rw [h1];dsimp only at h2;rw [h2],h3⟩
theorem QIm {p:Nd} (hp:PlantOk p) {c:Int} (hc:DecOk c):∀ (n:Nat) (ns:List (Option Ns)) (xs:List Nf) (keys:List ByteArray),LinesOf p ns xs->SrchOk p c xs keys->Qbr xs keys < n ->
    ∃ ms ks,loop Qfi (ns,keys)=some (ms,ks)/\((Qad p n xs keys=(ks.length,true)/\ks.length<=2000)\/(Qad p n xs keys=(0,false)/\2000 < ks.length)):=by
  intro n
  induction n with
  | zero=>intro ns xs keys _ _ h;omega
  | succ n ih =>
    intro ns xs keys hl h hmeas;have hlen:=hl.len;unfold Qad;by_cases hnil:xs=[]
    · rw [if_pos hnil];refine ⟨ns,keys,JW ?_,.inl ⟨rfl,h.e hnil⟩⟩;subst hnil;unfold Qfi;dsimp only;rw [hlen];rfl
    · rw [if_neg hnil];have hpos:0 < xs.length:=List.length_pos_iff.2 hnil;by_cases hbig:2000 < keys.length
      · rw [if_pos hbig];refine ⟨ns,keys,JW ?_,.inr ⟨rfl,hbig⟩⟩;unfold Qfi;dsimp only;rw [decide_eq_false (show ¬ (keys.length:Int)<=2000 by omega),Bool.and_false];rfl
      · rw [if_neg hbig];obtain ⟨h1,h2,z,hz,hzl⟩:=h.rnd hp hnil (by omega);obtain ⟨ns1,h3,h4⟩:=QIl hp hc hl h.ok (by have:=h.nl;omega) keys;have hs:Qfi (ns,keys)=some (.inl (ns1,(rnd p xs keys).2)):=by
          unfold Qfi;dsimp only;rw [decide_eq_true (show (0:Int) < (ns.length:Int) by omega),decide_eq_true (show (keys.length:Int)<=2000 by omega),Bool.and_self,cond_true];unfold mk;rw [if_pos (by have:=h.nl;omega),Qt];unfold Qlx;rw [show ns.isEmpty=false by cases ns with
            | nil=>rw [List.length_nil] at hlen;omega
            | cons a l=>rfl,cond_false,QBa hp hl (fun x hx=>(h.ok x hx).1),Qt,h3];rfl
        rw [Qao hs];exact ih ns1 _ _ h4 h1 (by omega)
theorem QIo {p:Nd} (hS:PlantS p) (h0:(JY p).2=0):Qdt p=some (if (Qad p Qdv [YE p] [Yy (YE p)]).2=true then (((Qad p Qdv [YE p] [Yy (YE p)]).1:Int),0) else (0,8)):=by
 have hp:=Qzh h0;unfold Qdt;rw [Qzg hS,Qt,decide_eq_true h0,Bool.not_true,cond_false,QDw hS,Qt];unfold Qrj;rw [Qt,Qwf (Qvg hp),Qt,Qt];dsimp only;obtain ⟨ms,ks,h1,h2⟩:=QIm hp (Qex (n:=0) (Int.le_refl _) (by omega)) Qdv [some (Ns.mk (some ⟨p,YE p⟩) Opq.mk (Nj.mk 0 0 0))] [YE p] [Yy (YE p)] rfl Qvf (by show Qbr [YE p] _ < 5000;unfold Qbr;simp);rw [show ZW [] (Yy (YE p))=[Yy (YE p)] from rfl,h1,Qt];rcases h2 with ⟨h2,h3⟩ | ⟨h2,h3⟩
 ·rw [h2];dsimp only;rw [decide_eq_false (by omega)];rfl
 ·rw [h2];dsimp only;rw [decide_eq_true (by omega)];rfl
theorem QIn {p:Nd} (hS:PlantS p) (h0:(JY p).2≠0):Qdt p=some (0,(JY p).2):=by
 unfold Qdt;rw [Qzg hS,Qt,decide_eq_false h0];rfl
end Go.Gw

end
