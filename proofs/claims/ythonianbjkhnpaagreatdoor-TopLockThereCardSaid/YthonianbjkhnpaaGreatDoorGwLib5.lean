/- Laws of the walk. Condition: each theorem says its own. -/
import Derived.Test.YthonianbjkhnpaaGreatDoorGwCore
import Derived.KernelRfl
import Derived.Laws.OwnMore
import Derived.Laws.CopyRow
import Derived.Laws.ByValue
import Derived.WalkSpells
import Derived.Laws.BytesString
set_option linter.unusedVariables false
set_option linter.unusedSimpArgs false
set_option linter.unusedSectionVars false
open Nat renaming mul_le_mul_right→Ea,ble→Ef,mul_one→Eh,mul_le_mul→Ek,le_trans→Eo,succ_mul→Ep,lt_or_ge→Er,zero_mul→Eu,add_zero→Ev,zero_le→Ew
open List renaming getElem?_take_of_lt→Eb,replicate→Ec,mem_singleton→Ee,replicate_succ→Eg,getElem?_eq_none→Ei,getElem?_eq_some_iff→Ej,getElem?_map→El,mem_cons_of_mem→Em,drop_eq_getElem_cons→En,map_map→Et,map→Ex
open Option renaming map_eq_some_iff→Ed,map_some→Es
section
set_option linter.unusedSectionVars false
namespace Go.Gw
open Go

abbrev w64 (x:Int):Int:=IntKind.wrap .i64 x

theorem X6 {α:Type} {b:Bool} {x y z:α} (hb:b=true) (h:cond b x y=z):x=z:=by simp_all
theorem Qbx {α:Type} {b:Bool} {x y z:α} (hb:b=false) (h:cond b x y=z):y=z:=by simp_all
theorem Qct {α β:Type} {e:Option α} {f:α->Option β} {r:β} (h:e.bind f=some r):∃ x,e=some x/\f x=some r:=by
 cases e with
 | none=>cases h
 | some x=>simp_all

noncomputable def loop {σ β:Type} (step:σ->Option (σ⊕β)) (s:σ):Option β :=
 match Y4 step 300 s with
 | some o=>some o
 | none=>open Classical in if h:∃ o,∃ k,Y4 step k s=some o then some (Classical.choose h) else none

theorem Qrm {σ β:Type} {step:σ->Option (σ⊕β)}:∀ {k k':Nat} {s:σ} {o o':β},Y4 step k s=some o->Y4 step k' s=some o'->o=o'
 | 0,_,_,_,_,h,_=>by cases h
 | _+1,0,_,_,_,_,h=>by cases h
 | k+1,k'+1,s,o,o',h,h'=>by
  simp only [Y4] at h h';cases hs:step s with
  | none=>simp [hs] at h
  | some x =>
   cases x with
   | inl s'=>simp only [hs] at h h';exact Qrm h h'
   | inr b=>simp only [hs] at h h';cases h;cases h';rfl

theorem loop_iff {σ β:Type} {step:σ->Option (σ⊕β)} {s:σ} {o:β}:loop step s=some o↔∃ k,Y4 step k s=some o:=by
 classical
 unfold loop;cases h3:Y4 step 300 s with
 | some o'=>exact ⟨fun h=>⟨300,h3.trans h⟩,fun ⟨k,hk⟩=>congrArg some (Qrm h3 hk)⟩
 | none =>
  constructor
  ·intro h;simp only at h;split at h
   ·grind
   ·cases h
  ·rintro ⟨k,hk⟩;have hh:∃ o,∃ k,Y4 step k s=some o:=⟨o,k,hk⟩;simp only;rw [dif_pos hh]
   grind [Qrm,Classical.choose_spec]

theorem JP {σ β:Type} {step:σ->Option (σ⊕β)} {s s':σ} (h:step s=some (.inl s')):loop step s=loop step s':=by
 apply Option.ext;intro o;rw [loop_iff,loop_iff];constructor
 ·rintro ⟨k,hk⟩;cases k with
  | zero=>cases hk
  | succ k=>grind [Y4]
 ·rintro ⟨k,hk⟩;exact ⟨k+1,by grind [Y4]⟩
theorem Jv {σ β:Type} {step:σ->Option (σ⊕β)} {s:σ} {o:β} (h:step s=some (.inr o)):loop step s=some o:=by
 rw [loop_iff];exact ⟨1,by simp only [Y4,h]⟩

section
variable {P:Program} [JD P] {n:Nat} {q:Post} {ρ:Env} {w:World}

theorem QFk {c:Code} {σ β:Type} {step:σ->Option (σ⊕β)} {s:σ} {o:β} (I:σ->Env->World->Prop) (h:loop step s=some o) (h0:I s ρ w)
  (round:∀ s ρ w,I s ρ w->∀ x,step s=some x->(∀ y,x=.inr y->y=o)->WC P n c ⟨fun ρ w=>∃ s',x=.inl s'/\I s' ρ w,q.ex,q.ret⟩ ρ w):WC P n (.loop c) q ρ w:=by
 obtain ⟨k,hk⟩:=loop_iff.1 h;refine Qvo (step:=step) (k:=k) (s:=s) (o:=o) I hk h0 fun s ρ w hI=>⟨fun s' hs=>?_,fun hs=>?_⟩
 ·exact (round s ρ w hI _ hs (fun y hy=>by cases hy)).mono (fun ρ w ⟨s'',he,hI'⟩=>by simp_all) (fun _ _ _ h=>h) (fun _ _ h=>h)
 grind

theorem Qaq {ops:Array Oper} {K:Env->World->Prop} {o:Oper} {os:List Oper} (b:Bool) (V:Value) (hw:XI ops o n ρ=b) (ht:b=true->Eff P o n ρ w (fun v w'=>v=V/\Ext w w'))
    (h:∀ w',Ext w w'->T0 P n ops K os (Xk ρ o.dst (gd b V)) w'):T0 P n ops K (o::os) ρ w :=
  Qvi b hw (fun hb=>(ht hb).mono fun v w' ⟨hv,he⟩=>by grind [Qm])
    (fun hb=>by grind [Qia,Chg.refl])
section ev
variable {x1 x2 x3 x4 x5 x6 x7 x8:Operand} {v1 v2 v3 v4 v5 v6 v7 v8:Value}
theorem ev0:((#[]:Array Operand).map (Qo n ρ)).toList=[]:=by simp
theorem QM (h1:Qo n ρ x1=v1):(#[x1].map (Qo n ρ)).toList=[v1]:=by grind
theorem QV (h1:Qo n ρ x1=v1) (h2:Qo n ρ x2=v2):(#[x1,x2].map (Qo n ρ)).toList=[v1,v2]:=by simp_all
theorem YM (h1:Qo n ρ x1=v1) (h2:Qo n ρ x2=v2) (h3:Qo n ρ x3=v3):(#[x1,x2,x3].map (Qo n ρ)).toList=[v1,v2,v3]:=by simp_all
theorem ev4 (h1:Qo n ρ x1=v1) (h2:Qo n ρ x2=v2) (h3:Qo n ρ x3=v3) (h4:Qo n ρ x4=v4):(#[x1,x2,x3,x4].map (Qo n ρ)).toList=[v1,v2,v3,v4]:=by simp_all
end ev

variable {d:Option Nat} {t T U:TypeId} {p:String} {af:Array Edge} {gu:Option (Nat×Bool)} {x y z:Operand}
theorem Jo {fs:Array Field} {i:Nat} {f:Field} {a:Addr} {v:Value} (off:Nat) (hu:P.underlying T=some (.struct fs)) (hf:fs[i]?=some f) (ho:f.offset=off) (hs:∃ k,Xl P f.type (k+1)) (hx:Qo n ρ x=.pointer (some a))
  (hv:v=.pointer (some (a.add off))):Yl P n ρ ⟨d,.fieldAddr T x i,t,p,af,gu⟩ w v:=by
 grind [QXu]

theorem Qet {a:Addr} {cs:List Value} (hT:Aggr P T cs.length) (hat:At w a cs):∀ w1,Rel w w1->(loadVar T a).run P w1=.ok (.agg cs.toArray) w1:=fun w1 r=>by
 simp [loadVar,QCi hT,ZE hT.size,run_loadCells_list w1 a cs (At.ext r.ext hat).2]
def LtL (L:List Value) (w:World):Prop:=∀ h∈L,∀ b,Qt h=some b->b < w.heap.size
theorem LtL.chg {L H:List Value} {w w':World} (h:LtL L w) (c:Chg H w w'):LtL L w':=fun x hx b hb=>Nat.lt_of_lt_of_le (h x hx b hb) c.size
theorem LtL.nil (w:World):LtL [] w:=fun _ h=>by cases h
theorem LtL.cons {L:List Value} {w:World} {v:Value} (h:LtL L w) (hv:∀ b,Qt v=some b->b < w.heap.size):LtL (v::L) w:=fun x hx b hb=>by
 rcases List.mem_cons.1 hx with rfl | hx
 ·grind
 ·exact h x hx b hb

theorem Own.sub {α:Type} [Rep α] {e:TypeId} {L L':List Value} {v:Value} {xs:List α} (h:Own e L w v xs) (hs:∀ x∈L',x∈L):Own e L' w v xs:=h.step (Stepp.sub w hs) (Chg.refl [] w) (fun _ _=>Avoids.nil _)
theorem SlRd.sub {α:Type} [Rep α] {L L':List Value} {v:Value} {xs:List α} (h:SlRd L w v xs) (hs:∀ x∈L',x∈L):SlRd L' w v xs:=h.step (Stepp.sub w hs)
theorem Own.rdL {α:Type} [Rep α] {e:TypeId} {L L0:List Value} {w0:World} {v:Value} {xs:List α} (h:Own e L w v xs) (hs:∀ x∈L0,x∈L) (hL:LtL L0 w0) (hf:∀ b,Qt v=some b->w0.heap.size<=b):SlRd L0 w v xs :=
 (h.sub hs).rd (fun b hb x hx e=>by have:=hL x hx b e;grind)
theorem Xd {v:Value} {b:Nat} (h:Qt v≠some b):Avoids [v] b:=fun x hx e=>by simp_all
theorem QF {b b':Nat} (h:b'≠b):Avoids [.pointer (some ⟨b',0,none⟩)] b:=fun x hx e=>by grind [Qt,Ee]
end
end Go.Gw
namespace Go.Gw
section
variable {P:Program} [JD P] {n:Nat} {q:Post} {ρ:Env} {w:World}
theorem Xn {c:Code} {σ β:Type} {step:σ->Option (σ⊕β)} {s:σ} {o:β} (I:σ->Env->World->Prop) (h:loop step s=some o) (h0:I s ρ w)
  (round:∀ s ρ w,I s ρ w->∀ x,step s=some x->(∀ y,x=.inr y->y=o)->∀ K:Env->World->Prop,(∀ s' ρ w,x=.inl s'->I s' ρ w->K ρ w)->WC P n c ⟨K,q.ex,q.ret⟩ ρ w):WC P n (.loop c) q ρ w :=
 QFk I h h0 fun s ρ w hI x hx ho=>round s ρ w hI x hx ho _ fun s' _ _ he hI'=>⟨s',he,hI'⟩
theorem Xs {α:Type} {a:α} {L L':List α} (h:a∈L') (hs:∀ x∈L,x∈L'):∀ x∈a::L,x∈L':=fun x hx=>by
 grind
theorem XF {α:Type} (L:List α):∀ x∈L,x∈L:=fun _ h=>h
theorem QX {α:Type} {a:α} {L L':List α} (hs:∀ x∈L,x∈L'):∀ x∈L,x∈a::L':=fun x hx=>Em _ (hs x hx)
theorem Qs {α:Type} {a:α} {L:List α}:a∈a::L:=List.mem_cons_self ..
theorem Xi {α:Type} {a b:α} {L:List α} (h:a∈L):a∈b::L:=Em _ h
theorem Xa {α:Type} {x0 x1:α} {L:List α}:x1∈x0::x1::L:=Xi Qs
theorem YP {α:Type} {x0 x1 x2:α} {L:List α}:x2∈x0::x1::x2::L:=Xi (Xi Qs)
theorem ZC {α:Type} {x0 x1 x2 x3:α} {L:List α}:x3∈x0::x1::x2::x3::L:=Xi (Xi (Xi Qs))
theorem Zi {α:Type} {x0 x1 x2:α} {L:List α}:∀ x∈L,x∈x0::x1::x2::L:=QX (QX (QX (XF _)))
theorem Qox {α:Type} {x0 x1 x2 x3 x4:α} {L:List α}:∀ x∈x0::x1::x3::x4::L,x∈x0::x1::x2::x3::x4::L:=Xs Qs (Xs (Xi Qs) (Xs (Xi (Xi (Xi Qs))) (Xs (Xi (Xi (Xi (Xi Qs)))) (QX (QX (QX (QX (QX (XF _)))))))))
theorem Qap {α:Type} {x0 x1 x2:α} {L:List α}:∀ x∈x0::x2::L,x∈x0::x1::x2::L:=Xs Qs (Xs (Xi (Xi Qs)) (QX (QX (QX (XF _)))))
theorem Z7 {α:Type} {x0 x1 x2 x3:α} {L:List α}:∀ x∈x0::x2::x3::L,x∈x0::x1::x2::x3::L:=Xs Qs (Xs (Xi (Xi Qs)) (Xs (Xi (Xi (Xi Qs))) (QX (QX (QX (QX (XF _)))))))
theorem QDe {α:Type} {x0 x1 x2 x3 x4:α} {L:List α}:∀ x∈x0::x2::x3::x4::L,x∈x0::x1::x2::x3::x4::L:=Xs Qs (Xs (Xi (Xi Qs)) (Xs (Xi (Xi (Xi Qs))) (Xs (Xi (Xi (Xi (Xi Qs)))) (QX (QX (QX (QX (QX (XF _)))))))))
theorem Qci {α:Type} {x0:α} {L:List α}:∀ x∈x0::L,x∈x0::L:=Xs Qs (QX (XF _))
theorem Qaf {α:Type} {x0 x1:α} {L:List α}:∀ x∈x0::L,x∈x0::x1::L:=Xs Qs (QX (QX (XF _)))
theorem QR {α:Type} {x0 x1:α} {L:List α}:∀ x∈x1::x0::L,x∈x0::x1::L:=Xs (Xi Qs) (Xs Qs (QX (QX (XF _))))
theorem X8 {α:Type} {x0 x1 x2:α} {L:List α}:∀ x∈x1::x0::x2::L,x∈x0::x1::x2::L:=Xs (Xi Qs) (Xs Qs (Xs (Xi (Xi Qs)) (QX (QX (QX (XF _))))))
theorem YA {α:Type} {x0 x1 x2 x3:α} {L:List α}:∀ x∈x1::x0::x2::x3::L,x∈x0::x1::x2::x3::L:=Xs (Xi Qs) (Xs Qs (Xs (Xi (Xi Qs)) (Xs (Xi (Xi (Xi Qs))) (QX (QX (QX (QX (XF _))))))))
theorem Qug {α:Type} {x0 x1 x2 x3 x4:α} {L:List α}:∀ x∈x1::x0::x2::x3::x4::L,x∈x0::x1::x2::x3::x4::L:=Xs (Xi Qs) (Xs Qs (Xs (Xi (Xi Qs)) (Xs (Xi (Xi (Xi Qs))) (Xs (Xi (Xi (Xi (Xi Qs)))) (QX (QX (QX (QX (QX (XF _))))))))))
theorem XG {α:Type} {x0 x1 x2:α} {L:List α}:∀ x∈x1::x2::L,x∈x0::x1::x2::L:=Xs (Xi Qs) (Xs (Xi (Xi Qs)) (QX (QX (QX (XF _)))))
theorem Qba {α:Type} {x0 x1 x2 x3:α} {L:List α}:∀ x∈x1::x2::x3::L,x∈x0::x1::x2::x3::L:=Xs (Xi Qs) (Xs (Xi (Xi Qs)) (Xs (Xi (Xi (Xi Qs))) (QX (QX (QX (QX (XF _)))))))
theorem QDf {α:Type} {x0 x1 x2 x3 x4:α} {L:List α}:∀ x∈x1::x2::x3::x4::L,x∈x0::x1::x2::x3::x4::L:=Xs (Xi Qs) (Xs (Xi (Xi Qs)) (Xs (Xi (Xi (Xi Qs))) (Xs (Xi (Xi (Xi (Xi Qs)))) (QX (QX (QX (QX (QX (XF _)))))))))
theorem Zh {α:Type} {x0 x1:α} {L:List α}:∀ x∈x1::L,x∈x0::x1::L:=Xs (Xi Qs) (QX (QX (XF _)))
theorem Quh {α:Type} {x0 x1 x2:α} {L:List α}:∀ x∈x2::x0::x1::L,x∈x0::x1::x2::L:=Xs (Xi (Xi Qs)) (Xs Qs (Xs (Xi Qs) (QX (QX (QX (XF _))))))
theorem QD {α:Type} {L:List α}:∀ x∈([]:List α),x∈L:=fun _ h=>by cases h
end
end Go.Gw
namespace Go.Gw
def Xp {β μ:Type} (o:β⊕μ) (f:μ->Option β):Option β:=match o with | .inl b=>some b | .inr m=>f m
theorem Xr {β μ:Type} {a:β} {f:μ->Option β} {x:β} (h:Xp (.inl a) f=some x):some a=some x:=h
theorem XP {β μ:Type} {a:μ} {f:μ->Option β} {x:β} (h:Xp (.inr a) f=some x):f a=some x:=h
section
variable {α:Type} [Rep α] {w w':World}
theorem Y0 {e:TypeId} {L:List Value} {v:Value} {xs:List α} {b:Nat} (h:Own e L w v xs) (hb:w.heap.size<=b):Qt v≠some b:=fun e=>by have:=h.blk_lt e;omega
theorem XJ {v v':Value} {b:Nat} {cs:List Value} {T:TypeId} (hbl:∀ b,Qt v'=some b->Qt v=some b\/w.heap.size<=b) (h:Qt v≠some b) (hB:Box w b cs T):Qt v'≠some b:=fun e=>by
 rcases hbl b e with h1 | h1
 ·exact h h1
 ·have:=hB.lt;omega
theorem Qxc {e:TypeId} {L:List Value} {u v v':Value} {xs:List α} (hbl:∀ b,Qt v'=some b->Qt v=some b\/w.heap.size<=b) (h:∀ b,Qt u=some b->Qt v≠some b) (hu:Own e L w u xs):∀ b,Qt u=some b->Qt v'≠some b:=fun b hb e=>by
 rcases hbl b e with h1 | h1
 ·grind
 ·have:=hu.blk_lt hb;omega
theorem XV {v v':Value} {w0:World} (hbl:∀ b,Qt v'=some b->Qt v=some b\/w.heap.size<=b) (h:∀ b,Qt v=some b->w0.heap.size<=b) (hs:w0.heap.size<=w.heap.size):∀ b,Qt v'=some b->w0.heap.size<=b:=fun b hb=>by
 grind
theorem Jt (b:Nat) {p:Prop} (h:Qt (.slice none 0 0)=some b):p:=by cases h
theorem Qwh {v:Value} {u:Value} (h:∀ b,Qt u=some b->Qt v≠some b):∀ b,Qt u=some b->Avoids [v] b:=fun b hb=>Xd (h b hb)
theorem Xu {v:Value} {b:Nat} (h:Qt v≠some b):∀ k,Qt v=some k->Avoids [.pointer (some ⟨b,0,none⟩)] k:=fun k hk=>QF (fun e=>h (by simp_all))
theorem XU {v:Value} {w0:World} (h:Ext w0 w) (c:Chg [v] w w') (hf:∀ b,Qt v=some b->w0.heap.size<=b):Ext w0 w':=Chg.fresh h c (fun x hx n e=>by simp_all)
theorem QP {b:Nat} {w0:World} (h:Ext w0 w) (c:Chg [.pointer (some ⟨b,0,none⟩)] w w') (hf:w0.heap.size<=b):Ext w0 w':=Chg.fresh h c (fun x hx n e=>by grind [Qt,Ee])
end
end Go.Gw
namespace Go.Gw
def app {α:Type} (xs ys:List α):Option (List α):=if xs.length+ys.length<=1073741824 then some (xs++ys) else none
theorem Qwb {α:Type} {xs ys zs:List α} (h:app xs ys=some zs):xs.length+ys.length<=1073741824/\zs=xs++ys:=by
 grind [app]
def quo (a b:Int):Option Int:=if b=0 then none else some (w64 (a.tdiv b))
def rem (a b:Int):Option Int:=if b=0 then none else some (a.tmod b)
theorem QRr {a b c:Int} (h:quo a b=some c):b≠0/\c=w64 (a.tdiv b):=by
 grind [quo]
section
variable {P:Program} [JD P] {n:Nat} {ρ:Env} {w:World}
variable {d:Option Nat} {t T U:TypeId} {p:String} {af:Array Edge} {gu:Option (Nat×Bool)} {x y z:Operand}
theorem QYf {a b c:Int} (h:quo a b=some c) (hx:Qo n ρ x=.int .i64 a) (hy:Qo n ρ y=.int .i64 b):Yl P n ρ ⟨d,.binOp .quo T x y U,t,p,af,gu⟩ w (.int .i64 c):=by
 obtain ⟨hb,rfl⟩:=QRr h;exact QEr hb hx hy
theorem QHo {α:Type} [Rep α] {e:TypeId} {bytes:Nat} {z:Value} {L:List Value} {len:Nat} {xs:List α} {cells:List Value} {parts:Array (Nat×Operand)} {K:Value->World->Prop}
  (hu:P.underlying T=some (.slice e)) (hi:EInfo P e (Rep.n α) bytes z) (hsmall:Ef (len * Rep.n α) 16777216=true)
  (hf:Qal (fun i=>some (i * Rep.n α,Rep.n α)) (Qdr z.cells.toList (len * Rep.n α)) (parts.toList.map fun q=>(q.1,Qo n ρ q.2))=some cells)
  (hel:Elems L w cells xs) (hl:xs.length=len) (hlt:LtL L w)
  (h:∀ b w',Ext w w'->SlRd L w' (.slice (some ⟨b,0,none⟩) len len) xs->K (.slice (some ⟨b,0,none⟩) len len) w'):Eff P ⟨d,.buildSlice T len parts,t,p,af,gu⟩ n ρ w K :=
 Qqw hu hi hsmall hf hel hl fun b w' hb he ho _=>h b w' he (ho.rd fun k hk x hx e=>by
  have:=hlt x hx k e
  grind [Qt])

theorem QHn {α:Type} [Rep α] {e:TypeId} {bytes:Nat} {z:Value} {L:List Value} {len:Nat} {xs:List α} {cells:List Value} {parts:Array (Nat×Operand)} {K:Value->World->Prop}
  (hu:P.underlying T=some (.slice e)) (hi:EInfo P e (Rep.n α) bytes z) (hsmall:Ef (len * Rep.n α) 16777216=true)
  (hf:Qal (fun i=>some (i * Rep.n α,Rep.n α)) (Qdr z.cells.toList (len * Rep.n α)) (parts.toList.map fun q=>(q.1,Qo n ρ q.2))=some cells)
  (hel:Elems L w cells xs) (hl:xs.length=len)
  (h:∀ v w',Ext w w'->(∀ b,Qt v=some b->w.heap.size<=b)->Own e (v::L) w' v xs->K v w'):Eff P ⟨d,.buildSlice T len parts,t,p,af,gu⟩ n ρ w K :=
 Qqw hu hi hsmall hf hel hl fun _ w' hb he _ ho=>h _ w' he (fun k hk=>by grind [Qt]) ho

theorem J7 {α:Type} [Rep α] {e:TypeId} {bytes:Nat} {zz:Value} {L:List Value} {v vx:Value} {xs ys zs:List α} {K:Value->World->Prop} {aT:Array TypeId}
  (hu:P.underlying T=some (.slice e)) (hi:EInfo P e (Rep.n α) bytes zz) (hbm:Ef bytes 65536=true) (hT:aT=#[T,T]) (hx:Qo n ρ x=v) (hy:Qo n ρ y=vx) (hown:Own e (v::L) w v xs) (hs:SlRd (v::L) w vx ys)
  (hz:app xs ys=some zs)
  (h:∀ v' w',Chg [v] w w'->(∀ b,Qt v'=some b->Qt v=some b\/w.heap.size<=b)->Own e (v'::L) w' v' zs->K v' w'):Eff P ⟨d,.call ⟨.builtin .append,#[x,y],aT⟩,t,p,af,gu⟩ n ρ w K:=by
 obtain ⟨hb,rfl⟩:=Qwb hz;have hbm:bytes<=65536:=by simpa using hbm
 have:(xs.length+ys.length) * bytes<=1073741824 * 65536:=Ek hb hbm
 grind [QHk,maxLen]
end
end Go.Gw
namespace Go.Gw
section
variable {P:Program} [JD P] {n:Nat} {ρ:Env} {w:World}
variable {d:Option Nat} {t T U:TypeId} {p:String} {af:Array Edge} {gu:Option (Nat×Bool)} {x y z:Operand}
theorem Qbh {a b:Bool} (ha:a=true) (hb:b=true):(a&&b)=true:=by simp_all
theorem Yk {b:Bool} (h:b=false):(!b)=true:=by subst h;rfl
theorem QL {α:Type} [Rep α] {e:TypeId} {L:List Value} {w2:World} {v:Value} {xs:List α} {aT:Array TypeId} (hT:aT[0]?=some T) (hu:P.underlying T=some (.slice e)) (hs:SlRd L w2 v xs) (hx:Qo n ρ x=v) :
  Yl P n ρ ⟨d,.call ⟨.builtin .len,#[x],aT⟩,t,p,af,gu⟩ w (.int .i64 xs.length):=by
 obtain ⟨a,c,rfl,_⟩:=hs.shape;exact Qks hT hu hx
theorem Qcn {α:Type} [Rep α] {e e':TypeId} {L:List Value} {w2:World} {v:Value} {xs:List α} {aT:Array TypeId} (hT:aT[0]?=some T) (hu:P.underlying T=some (.slice e)) (hs:Own e' L w2 v xs) (hx:Qo n ρ x=v) :
  Yl P n ρ ⟨d,.call ⟨.builtin .len,#[x],aT⟩,t,p,af,gu⟩ w (.int .i64 xs.length):=by
 obtain ⟨a,c,rfl,_⟩:=hs.shape;exact Qks hT hu hx

omit [JD P] in
structure ZI (P:Program) (T:TypeId) (cs:List Value):Prop where
 ex:∃ i z,P.info? T=some i/\i.zero=some z/\z.cells.toList=cs
theorem Xf {cs:List Value} {K:Value->World->Prop} (hZ:ZI P T cs)
  (h:∀ b w',w.heap.size<=b->Ext w w'->Box w' b cs T->K (.pointer (some ⟨b,0,none⟩)) w'):Eff P ⟨d,.alloc T,t,p,af,gu⟩ n ρ w K:=by
 obtain ⟨i,z,hi,hz,hc⟩:=hZ.ex
 grind [QHi]
theorem Xq {v:Value} {cs:List Value} {K:Value->World->Prop} (hx:Qo n ρ x=v) (hc:v.cells.toList=cs)
  (h:∀ b w',w.heap.size<=b->Ext w w'->Box w' b cs T->K (.pointer (some ⟨b,0,none⟩)) w'):Eff P ⟨d,.box T x,t,p,af,gu⟩ n ρ w K :=
 QHm hx fun b w' hb he hB=>h b w' hb he (hc▸hB)
theorem Je {v:Value} {b off:Nat} {cs cs' vs:List Value} {T':TypeId} {K:Value->World->Prop} {k:Nat} (hs:Xl P T k) (hv:v.cells.toList=vs) (hk:vs.length=k) (hx:Qo n ρ x=.pointer (some ⟨b,off,none⟩)) (hy:Qo n ρ y=v)
  (hb:Box w b cs T') (hl:Ef (off+k) cs.length=true) (h1:∀ u∈vs,u.oneCell'=true) (hcs:YW cs off vs=cs')
  (h:∀ w',Chg [.pointer (some ⟨b,0,none⟩)] w w'->Box w' b cs' T'->K undef w'):Eff P ⟨d,.store T x y,t,p,af,gu⟩ n ρ w K:=by
 subst hv;subst hk;subst hcs;have e:v.cells.toList.length=v.cells.size:=by simp
 exact QHt (by trivial) hx hy hb (by simp_all) h1 h
theorem QO:∀ u∈([]:List Value),u.oneCell'=true:=fun _ h=>by cases h
theorem Ql {v:Value} {vs:List Value} (h:v.oneCell'=true) (hs:∀ u∈vs,u.oneCell'=true):∀ u∈v::vs,u.oneCell'=true:=fun u hu=>by
 grind
theorem SlRd.one1 {α:Type} [Rep α] {L:List Value} {v:Value} {xs:List α} (h:SlRd L w v xs):v.oneCell'=true:=by obtain ⟨a,c,rfl,_⟩:=h.shape;rfl
theorem Own.one1 {α:Type} [Rep α] {e:TypeId} {L:List Value} {v:Value} {xs:List α} (h:Own e L w v xs):v.oneCell'=true:=by obtain ⟨a,c,rfl,_⟩:=h.shape;rfl
theorem Qp {L:List Value} {w':World} {b:Nat} (he:Ext w w') (hb:w.heap.size<=b):Stepp L w (.pointer (some ⟨b,0,none⟩)::L) w':=Stepp.add _ he (fun k hk=>by grind [Qt])
theorem Jr {L:List Value} (w:World):Stepp L w (.slice none 0 0::L) w:=Stepp.add _ (Chg.refl [] _) (fun _ h=>by cases h)
theorem QZ {b b':Nat} {cs:List Value} {T:TypeId} (h:Box w b' cs T) (hb:w.heap.size<=b):b≠b':=fun e=>by have:=h.lt;omega
theorem Q6 {w0:World} {b:Nat} (h:Ext w0 w) (hb:w.heap.size<=b):w0.heap.size<=b:=Eo h.size hb

section
variable {i1 i2 i3 i4 i5 i6 i7 i8 i9:Nat} {x1 x2 x3 x4 x5 x6 x7 x8 x9:Operand} {v1 v2 v3 v4 v5 v6 v7 v8 v9:Value}
end
end
end Go.Gw

end
section
set_option linter.unusedVariables false
namespace Go.Gw
open Go Go.Conc
section
variable {P:Program}
theorem QVt (t:TypeId) (cs:Array Value) (off:Nat):Tame P (part t cs off):=by
 unfold part;refine .bnd (QDp _) fun b=>Qbb (.bnd (JU _) fun _=>.pure _) ?_;split<;>first | exact .pure _ | exact YS _
theorem QDo (t:TypeId) (x y:Value):Tame P (Instr.index t x y):=by
 unfold Instr.index;refine .bnd (Qpa _) fun _=>.bnd (Qbc _) fun _=>?_;split
 ·exact Qbb (.bnd (JU _) fun _=>QVt _ _ _) (Qpb _ _ _ _)
 ·split<;>first | exact .pure _ | exact Qpb _ _ _ _
 ·exact YS _
theorem QDn {α β:Type} (f:α->β->Sem (ForInStep β)) (hf:∀ a b,Tame P (f a b)):∀ (xs:List α) (b:β),Tame P (forIn xs b f)
 | [],b=>by rw [List.forIn_nil];exact .pure _
 | x::xs,b=>by
  rw [List.forIn_cons];refine .bnd (hf x b) fun r=>?_;split
  ·exact .pure _
  ·exact QDn f hf xs _
end
end Go.Gw

end
section
set_option linter.unusedSectionVars false
namespace Go.Gw
open Go
section
variable {P:Program} [JD P] {n:Nat} {q:Post} {ρ:Env} {w:World}
variable {d:Option Nat} {t T U:TypeId} {p:String} {af:Array Edge} {gu:Option (Nat×Bool)} {x y z:Operand}

theorem Qe {α:Type} {a x:α} (h:some a=some x):a=x:=Option.some.inj h

theorem Q8 {c:Code} (M:Env->World->Prop) (h:∀ K:Env->World->Prop,(∀ ρ w,M ρ w->K ρ w)->WC P n c ⟨K,q.ex,q.ret⟩ ρ w) (h2:∀ ρ w,M ρ w->q.norm ρ w):WC P n c q ρ w :=
 (h M fun _ _ h=>h).mono h2 (fun _ _ _ h=>h) (fun _ _ h=>h)

theorem Elems.cons {α:Type} [Rep α] {L:List Value} {cs rest:List Value} {x:α} {xs:List α} (h:Rep.rd L w cs x) (hs:Elems L w rest xs):Elems L w (cs++rest) (x::xs):=(Elems.one h).append hs

end
end Go.Gw
namespace Go.Gw
open Go
section
variable {P:Program} {T:TypeId}
theorem Yw {k:Nat} (h:(P.info? T).map (·.size)=some k):Xl P T k:=by
 cases hi:P.info? T with
 | none=>grind
 | some i=>simp [hi] at h;exact ⟨i,hi,h⟩
theorem Qbu {k:Nat} {dsc:TypeDesc} (hm:match dsc with | .struct _ | .array _ _=>True | _=>False) (hu:P.underlying T=some dsc) (h:(P.info? T).map (·.size)=some k):Aggr P T k:=by
 obtain ⟨i,hi,hk⟩:=Yw h;exact ⟨dsc,i,hu,hm,hi,hk⟩
theorem Qat {k bytes:Nat} {z:Value} (h:(P.info? T).bind (fun i=>i.zero.map fun z=>(i.size,i.bytes,z))=some (k,bytes,z)) (hz:z.cells.size=k) (hk:0 < k):EInfo P T k bytes z:=by
 cases hi:P.info? T with
 | none=>grind
 | some i =>
  simp only [hi,Qj,Ed,Prod.mk.injEq] at h;obtain ⟨z',h1,h2,h3,h4⟩:=h;exact ⟨⟨i,hi,h2,h3,by rw [h1,h4],hz,hk⟩⟩
theorem Qas {places:List (Nat×Nat)} {zero:List Value} {fs:Array Field} (hu:P.underlying T=some (.struct fs)) (hz:(P.info? T).bind (fun i=>i.zero.map fun z=>z.cells)=some zero.toArray)
  (hp:fs.toList.mapM (fun f=>(P.info? f.type).map fun i=>(f.offset,i.size))=some places):BI P T places zero:=by
 cases hi:P.info? T with
 | none=>grind
 | some i =>
  simp only [hi,Qj,Ed] at hz;obtain ⟨z,h1,h2⟩:=hz;exact ⟨⟨i,fs,z,hi,hu,h1,h2,hp⟩⟩
theorem JB {cs:List Value} (hz:(P.info? T).bind (fun i=>i.zero.map fun z=>z.cells.toList)=some cs):ZI P T cs:=by
 cases hi:P.info? T with
 | none=>grind
 | some i =>
  simp only [hi,Qj,Ed] at hz;obtain ⟨z,h1,h2⟩:=hz;exact ⟨⟨i,z,hi,h1,h2⟩⟩
end
end Go.Gw
namespace Go.Gw
open Go
theorem QJ {L:List Value} {w:World} {b:Nat} {cs:List Value} {T:TypeId} (h:LtL L w) (hB:Box w b cs T):LtL (.pointer (some ⟨b,0,none⟩)::L) w:=h.cons fun k hk=>by
 have e:b=k:=by grind [Qt]
 subst e;exact hB.lt
theorem Yi {α:Type} [Rep α] {e:TypeId} {L L':List Value} {w:World} {v:Value} {xs:List α} (h:LtL L w) (hO:Own e L' w v xs):LtL (v::L) w:=h.cons fun _ hk=>hO.blk_lt hk
end Go.Gw
namespace Go.Gw
open Go
theorem Q3 {v:Value} (h:v.oneCell'=true):v.cells.toList=[v]:=by
 cases v<;>first | rfl | cases h

def Qcz (place:Nat->Option (Nat×Nat)) (cells:List Value):List (Nat×List Value)->Option (List Value)
 | []=>some cells
 | (i,vs)::rest =>
  match place i with
  | none=>none
  | some (off,size)=>bif Nat.beq vs.length size&&Ef (off+vs.length) cells.length then Qcz place (YW cells off vs) rest else none
theorem Qxq (place:Nat->Option (Nat×Nat)):∀ (pv:List (Nat×Value)) (cells:List Value),Qal place cells pv=Qcz place cells (pv.map fun q=>(q.1,q.2.cells.toList))
 | [],_=>rfl
 | (i,v)::rest,cells=>by
  simp only [Qal,Qcz,List.map_cons];cases place i with
  | none=>rfl
  | some p=>simp only [Qxq place rest]

section
variable {P:Program} [JD P] {n:Nat} {q:Post} {ρ:Env} {w:World}
variable {d:Option Nat} {t T U:TypeId} {p:String} {af:Array Edge} {gu:Option (Nat×Bool)} {x y z:Operand}
def PC (n:Nat) (ρ:Env) (parts:List (Nat×Operand)) (pc:List (Nat×List Value)):Prop:=parts.map (fun q=>(q.1,(Qo n ρ q.2).cells.toList))=pc
theorem QT:PC n ρ [] []:=rfl
theorem Qx {i:Nat} {v:Value} {cs:List Value} {ps:List (Nat×Operand)} {pc:List (Nat×List Value)} (h:Qo n ρ x=v) (hc:v.cells.toList=cs) (hs:PC n ρ ps pc):PC n ρ ((i,x)::ps) ((i,cs)::pc):=by
 grind [PC]
theorem PC.fill {parts:List (Nat×Operand)} {pc:List (Nat×List Value)} {place:Nat->Option (Nat×Nat)} {cells out:List Value} (h:PC n ρ parts pc) (hf:Qcz place cells pc=some out):Qal place cells (parts.map fun q=>(q.1,Qo n ρ q.2))=some out:=by
 rw [Qxq,Et];unfold PC at h;rw [<-hf,<-h];rfl
theorem Xw {cells zero:List Value} {places:List (Nat×Nat)} {parts:List (Nat×Operand)} {pc:List (Nat×List Value)} (hB:BI P T places zero) (hp:PC n ρ parts pc) (h:Qcz (places[·]?) zero pc=some cells) :
  Yl P n ρ ⟨d,.build T parts.toArray,t,p,af,gu⟩ w (.agg cells.toArray):=QXk hB (hp.fill h)
theorem XL {α:Type} [Rep α] {e:TypeId} {bytes:Nat} {z:Value} {L:List Value} {len:Nat} {xs:List α} {cells:List Value} {parts:List (Nat×Operand)} {pc:List (Nat×List Value)} {K:Value->World->Prop}
  (hu:P.underlying T=some (.slice e)) (hi:EInfo P e (Rep.n α) bytes z) (hsmall:Ef (len * Rep.n α) 16777216=true)
  (hp:PC n ρ parts pc) (hf:Qcz (fun i=>some (i * Rep.n α,Rep.n α)) (Qdr z.cells.toList (len * Rep.n α)) pc=some cells)
  (hel:Elems L w cells xs) (hl:xs.length=len) (hlt:LtL L w)
  (h:∀ b w',Ext w w'->SlRd L w' (.slice (some ⟨b,0,none⟩) len len) xs->K (.slice (some ⟨b,0,none⟩) len len) w'):Eff P ⟨d,.buildSlice T len parts.toArray,t,p,af,gu⟩ n ρ w K :=
 QHo hu hi hsmall (hp.fill hf) hel hl hlt h
theorem Qqv {α:Type} [Rep α] {e:TypeId} {bytes:Nat} {z:Value} {L:List Value} {len:Nat} {xs:List α} {cells:List Value} {parts:List (Nat×Operand)} {pc:List (Nat×List Value)} {K:Value->World->Prop}
  (hu:P.underlying T=some (.slice e)) (hi:EInfo P e (Rep.n α) bytes z) (hsmall:Ef (len * Rep.n α) 16777216=true)
  (hp:PC n ρ parts pc) (hf:Qcz (fun i=>some (i * Rep.n α,Rep.n α)) (Qdr z.cells.toList (len * Rep.n α)) pc=some cells)
  (hel:Elems L w cells xs) (hl:xs.length=len)
  (h:∀ v w',Ext w w'->(∀ b,Qt v=some b->w.heap.size<=b)->Own e (v::L) w' v xs->K v w'):Eff P ⟨d,.buildSlice T len parts.toArray,t,p,af,gu⟩ n ρ w K :=
 QHn hu hi hsmall (hp.fill hf) hel hl h
end
end Go.Gw
namespace Go.Gw
open Go
section
variable {P:Program} [JD P] {n:Nat} {ρ:Env} {w:World}
variable {d:Option Nat} {t T U:TypeId} {p:String} {af:Array Edge} {gu:Option (Nat×Bool)} {x y z:Operand}
theorem Qll {f : FuncId} {fn : Func} {c : Code} {xs : Array Operand} {aT : Array TypeId} {args : List Value} {K Φ : Value → World → Prop} (hy : Qo n ρ y = .func (.func f) #[] #[]) (hf : P.funcs[f]? = some fn) (hname : (fn.name == "runtime.NumGoroutine") = false) (hb : fn.body = some c)
    (ha:(xs.map (Qo n ρ)).toList=args) (hc:CallsTo P f args w Φ) (h:∀ v w',Φ v w'->K v w'):Eff P ⟨d,.call ⟨.value y,xs,aT⟩,t,p,af,gu⟩ n ρ w K:=by
  have e:xs.map (Qo n ρ)=args.toArray:=by rw [<-ha]
  have this:∀ w es,(execOp (Qo n ρ) ⟨d,.call ⟨.value y,xs,aT⟩,t,p,af,gu⟩).runT P w es=(.ok (.enter f args.toArray) w,es):=fun w es=>by
    refine Eq.trans ?_ (Qol (args:=args.toArray) hf hname hb);simp_all [execOp,resolve,Deferred.ofValue,invoke,pure_bind,Array.empty_append,Array.append_empty]
  refine ⟨(Tame.still _ this).fr,.inr fun w1 r=>?_⟩;rw [show (execOp (Qo n ρ) ⟨d,.call ⟨.value y,xs,aT⟩,t,p,af,gu⟩).run P w1=_ from by rw [<-Sem.runT_fst P _ w1 #[],this]];exact CallsJ.rely (CallsTo.mono hc h) r
theorem At.elem {a:Addr} {cs:List Value} {i:Nat} {u:Value} (h:At w a cs) (hi:cs[i]?=some u):At w (a.add (i * 1)) [u]:=by
 have h2:=(At.drop h i).take 1;rw [Eh]
 grind [take,En,Ej]
end
end Go.Gw
namespace Go.Gw
open Go
theorem QKd {xs:List Int} {i el:Int} (h:idx xs i=some el):i < xs.length:=by obtain ⟨h0,h1,_⟩:=J9 h;omega
end Go.Gw

end
section
set_option linter.unusedSectionVars false
namespace Go.Gw
open Go
section
variable {P:Program} [JD P] {n:Nat} {ρ:Env} {w:World}
variable {d:Option Nat} {t T U:TypeId} {p:String} {af:Array Edge} {gu:Option (Nat×Bool)} {x y z:Operand}

theorem QXl {cells zero:List Value} {m e sz:Nat} {parts:List (Nat×Operand)} {pc:List (Nat×List Value)} (hu:P.underlying T=some (.array m e)) (hs:Xl P e sz) (hz:ZI P T zero) (hp:PC n ρ parts pc)
  (h:Qcz (fun i=>some (i * sz,sz)) zero pc=some cells):Yl P n ρ ⟨d,.build T parts.toArray,t,p,af,gu⟩ w (.agg cells.toArray):=by
 obtain ⟨it,z,h1,h3,h4⟩:=hz.ex;obtain ⟨ie,he,hsz⟩:=hs;have h':P.built T (parts.toArray.map fun (i,x)=>(i,Qo n ρ x)).toList=some cells.toArray:=by
  simp only [Program.built,h1,hu,h3,he,hsz];have:=Qlr _ _ _ (hp.fill h);have hz':z.cells=zero.toArray:=by rw [<-h4]
  simp_all
 grind [Zl,Yn,QDk,execOp,Sem.run_bind,run_build,Result.andThen,Sem.run_pure]

theorem Qbr {e m sz:Nat} {k:IntKind} {i:Int} {a:Addr} {v:Value} (hu:P.underlying T=some (.array m e)) (hs:Xl P e sz) (h0:0<=i) (h1:i < m) (hx:Qo n ρ x=.pointer (some a)) (hy:Qo n ρ y=.int k i)
  (hv:v=.pointer (some (a.add (i.toNat * sz)))):Yl P n ρ ⟨d,.indexAddr T x y,t,p,af,gu⟩ w v:=by grind [Qvh]

theorem QTm {cs:List Value} {off:Nat} {v:Value} (hT:YX P T) (h:cs[off]?=some v):(part T cs.toArray off).run P w=.ok v w:=by
 simp [part,QCh hT,h]
end
end Go.Gw

end
section
set_option linter.unusedSectionVars false
namespace Go.Gw
open Go
section
variable {P:Program} [JD P] {n:Nat} {q:Post} {ρ:Env} {w:World}

inductive Pl where
 | done
 | p (i:Nat) (r:Pl)
 | q (i:Nat) (r:Pl)
 | e (i:Nat) (r:Pl)
 | b (i:Nat) (r:Pl)
 | f (i:Nat) (r:Pl) (j:Nat) (s:Pl)
def Pl.hasQ:Pl->Bool
 | .done=>false
 | .p _ r=>r.hasQ
 | .q _ _=>true
 | .e _ r=>r.hasQ
 | .b _ _=>false
 | .f _ r _ s=>r.hasQ||s.hasQ
def Pl.len:Pl->Nat
 | .done=>0
 | .p _ r=>r.len+1
 | .q _ r=>r.len+1
 | .e _ r=>r.len+1
 | .b _ r=>r.len+1
 | .f _ r _ _=>r.len+1
def Pl.brk:Pl->List Nat
 | .done=>[]
 | .p _ r=>r.brk
 | .q _ r=>r.brk
 | .e _ r=>r.brk
 | .b i r=>i::r.brk
 | .f _ r _ s=>r.brk++s.brk

def TP (P:Program) [JD P] (n:Nat) (ops:List Oper) (S:World->Prop) (K:Env->World->Prop):Pl->Env->World->Prop
  | .done,ρ,w=>K ρ w
  | .p i r,ρ,w=>∃ o v,ops[i]?=some o/\Quiet P n ops.toArray (fun _=>True) o ρ v/\TP P n ops S K r (Xk ρ o.dst v) w
  | .q i r,ρ,w=>∃ o v,ops[i]?=some o/\Quiet P n ops.toArray S o ρ v/\TP P n ops S K r (Xk ρ o.dst v) w
  | .e i r,ρ,w=>∃ o,ops[i]?=some o/\Stp P n ops.toArray o ρ w (fun ρ' w'=>S w'/\TP P n ops S K r ρ' w')
  | .b i r,ρ,w=>∃ o,ops[i]?=some o/\Stp P n ops.toArray o ρ w (fun ρ' w'=>TP P n ops S K r ρ' w')
  | .f i r j s, ρ, w => (∃ o, ops[i]? = some o /\ Stp P n ops.toArray o ρ w (fun ρ' w' => S w' /\ TP P n ops S K r ρ' w')) /\
      (∃ o,ops[j]?=some o/\Stp P n ops.toArray o ρ w (fun ρ' w'=>S w'/\TP P n ops S K s ρ' w'))

def JQ (ops:Array Oper) (bs:List Nat):Pl->Array Bool->Bool
 | .done,listed=>(Region.ready .any ops listed).isEmpty
 | .p i r,listed=>Region.free .any ops listed i&&(Region.ready .any ops listed).contains i&&JQ ops bs r (listed.setIfInBounds i true)
 | .q i r,listed=>(bs.all fun b=>Qdd ops ops.size b i)&&Region.free .any ops listed i&&(Region.ready .any ops listed).contains i&&JQ ops bs r (listed.setIfInBounds i true)
 | .e i r,listed=>Region.ready .any ops listed == [i]&&(!bs.contains i&&JQ ops bs r (listed.setIfInBounds i true))
 | .b i r,listed=>Region.ready .any ops listed == [i]&&(bs.contains i&&(!r.hasQ&&JQ ops bs r (listed.setIfInBounds i true)))
 | .f i r j s,listed=>Region.ready .any ops listed == [i,j]&&(Nat.beq r.len s.len&&(!bs.contains i&&(!bs.contains j&&(JQ ops bs r (listed.setIfInBounds i true)&&JQ ops bs s (listed.setIfInBounds j true)))))

def QBn (ops:Array Oper) (p:Pl):Bool:=Region.noSelect ops&&(Nat.beq p.len ops.size&&JQ ops p.brk p (Array.replicate ops.size false))

theorem QWh {listed:Array Bool} {i x:Nat} (h:(listed.setIfInBounds i true).getD x true=false):listed.getD x true=false/\x≠i:=by
 by_cases hx:i=x
 ·simp_all
 ·rw [getD_set_ne true hx] at h;grind

section
variable {S:World->Prop} {K:Env->World->Prop} {ops:List Oper} {o:Oper} {i:Nat} {r:Pl} {v:Value}
end
end
end Go.Gw

end
section
set_option linter.unusedSectionVars false
namespace Go.Gw
open Go
section
variable {P:Program} [JD P] {n:Nat} {ρ:Env} {w:World}
variable {d:Option Nat} {t T U:TypeId} {p:String} {af:Array Edge} {gu:Option (Nat×Bool)} {x y z:Operand}

theorem Qln {α:Type} [Rep α] {e:TypeId} {L:List Value} {v:Value} {xs:List α} {i:Int} {el y':α} {off k:Nat} {u:Value} {vs:List Value} {K:Value->World->Prop} (hs:Xl P T k) (hc:u.cells.toList=vs) (hk:vs.length=k) (hown:Own e L w v xs) (hv:v∈L) (hel:idx xs i=some el)
  (hx:Qo n ρ x=.pointer (some ((YU v i.toNat (Rep.n α)).add off))) (hy:Qo n ρ y=u) (hl:Ef (off+k) (Rep.n α)=true) (h1:∀ c∈vs,c.oneCell'=true)
  (hset:∀ w' cs,Rep.rd L w' cs el->Rep.rd L w' (YW cs off vs) y')
  (h:∀ w',Chg [v] w w'->Own e L w' v (xs.set i.toNat y')->K undef w'):Eff P ⟨d,.store T x y,t,p,af,gu⟩ n ρ w K:=by
 subst hc;subst hk;have e:u.cells.toList.length=u.cells.size:=by simp
 exact QHu (by trivial) hown hv hel hx hy (by simp_all) h1 hset h

def mk {α:Type} (i:Int) (zero:α):Option (List α):=if 0<=i/\i<=1048576 then some (Ec i.toNat zero) else none
theorem Qnd {α:Type} {i:Int} {zero:α} {xs:List α} (h:mk i zero=some xs):0<=i/\i<=1048576/\xs=Ec i.toNat zero:=by
 grind [mk]

theorem Elems.replicate {α:Type} [Rep α] {L:List Value} {c:Value} {zero:α} (h1:Rep.n α=1) (hz:Rep.rd L w [c] zero):∀ m:Nat,Elems L w (Ec m c) (Ec m zero)
 | 0=>Elems.nil
 | m+1=>by
  rw [Eg,Eg];exact Elems.cons (cs:=[c]) hz (Elems.replicate h1 hz m)

theorem QNp (c:Value) (m:Nat):(madeCells #[c] m).toList=Ec m c:=by
 apply List.ext_getElem
 ·simp [madeCells]
 simp_all [madeCells,Nat.mod_one]

theorem Qxj {α:Type} [Rep α] {e:TypeId} {bytes:Nat} {c:Value} {L:List Value} {i:Int} {zero:α} {xs:List α} {k k':IntKind} {K:Value->World->Prop} (h1:Rep.n α=1) (hu:P.underlying T=some (.slice e)) (hi:EInfo P e 1 bytes c) (hcc:c.cells=#[c])
    (hbm:Ef bytes 65536=true) (hz:∀ L w,Rep.rd L w [c] zero) (hx:Qo n ρ x=.int k i) (hy:Qo n ρ y=.int k' i) (hm:mk i zero=some xs)
    (h:∀ v w',Ext w w'->(∀ b,Qt v=some b->w.heap.size<=b)->Own e (v::L) w' v xs->K v w'):Eff P ⟨d,.makeSlice T x y,t,p,af,gu⟩ n ρ w K:=by
  obtain ⟨h0,hmax,rfl⟩:=Qnd hm;obtain ⟨ti,g1,g2,g3,g4,_,_⟩:=hi.ex;have hbm:bytes<=65536:=by simpa using hbm
  obtain ⟨m,rfl⟩:∃ m:Nat,i=(m:Int):=⟨i.toNat,by omega⟩;have hmm:m<=1048576:=by omega
  have hb:ti.bytes * m<=281474976710656:=by
    rw [g3]
    calc bytes * m<=65536 * 1048576:=Ek hbm hmm
      _<=_:=by decide
  refine Ju (Yn (Qus _ _ _)) fun w1 e1=>?_;obtain ⟨w',hr,ho,hg⟩:=run_makeSlice_full (P:=P) (w:=w1) 0 T e ti c 1 hu g1 g4 g2 k k' m (by omega) hb (by unfold maxLen;omega) (Ew _);have he:Ext w1 w':=⟨hg.os,hg.tape,hg.output,hg.size,fun b hb _=>hg.block b hb (fun e=>by cases e)⟩;simp only [execOp,hx,hy,Sem.run_bind,hr,Result.andThen,Sem.run_pure,effR];refine h _ w' (e1.trans he) (fun b hb=>by have:=e1.size;grind [Qt]) ⟨(madeCells c.cells (m * 1)).toList,?_,?_⟩
  · simp_all
  simp_all [Eh,QNp,Int.toNat_natCast,Elems.replicate]
end
end Go.Gw

end
section
set_option linter.unusedSectionVars false
namespace Go.Gw
open Go
section
variable {P:Program} [JD P] {n:Nat} {ρ:Env} {w:World}
variable {d:Option Nat} {t T U:TypeId} {p:String} {af:Array Edge} {gu:Option (Nat×Bool)} {x y z:Operand}

theorem Qcp {L:List Value} {b:Nat} (hL:LtL L w) (hb:w.heap.size<=b):Avoids L b:=fun x hx e=>by have:=hL x hx b e;omega
end
end Go.Gw
namespace Go.Gw
end Go.Gw

end
section
set_option linter.unusedSectionVars false
namespace Go.Gw
open Go
section
variable {P:Program} [JD P] {n:Nat} {ρ:Env} {w:World}
theorem QFa {ops:Array Oper} {K:Env->World->Prop} {o:Oper} {os:List Oper} (Φ:Value->World->Prop) (b:Bool) (hw:XI ops o n ρ=b) (ht:b=true->Eff P o n ρ w (fun v w'=>Ext w w'/\Φ v w'))
    (h:∀ v w',Ext w w'->(b=true->Φ v w')->T0 P n ops K os (Xk ρ o.dst (gd b v)) w'):T0 P n ops K (o::os) ρ w :=
  Qvi b hw (fun hb=>(ht hb).mono fun v w' ⟨he,hv⟩=>by grind [Qm])
    (fun hb=>by simp_all [Qia,undef,Chg.refl])
end
end Go.Gw

end
section
set_option linter.unusedSectionVars false
namespace Go.Gw
open Go
section
variable {P:Program} [JD P] {n:Nat} {q:Post} {ρ:Env} {w:World}
end
end Go.Gw

end
section
set_option linter.unusedSectionVars false
namespace Go.Gw
open Go
section
variable {P:Program} [JD P] {n:Nat} {ρ:Env} {w w':World}
variable {d:Option Nat} {t T U:TypeId} {p:String} {af:Array Edge} {gu:Option (Nat×Bool)} {x y z:Operand}
theorem Qbd {f:FuncId} {cap:Array Operand} {cs:List Value} (h:(cap.map (Qo n ρ)).toList=cs):Yl P n ρ ⟨d,.makeFunc (.func f) #[] cap,t,p,af,gu⟩ w (.func (.func f) #[] cs.toArray):=by
 have e:cap.map (Qo n ρ)=cs.toArray:=by rw [<-h]
 simp_all [Yc,execOp,Instr.makeFunc]
theorem Qby {f : FuncId} {fn : Func} {c : Code} {xs : Array Operand} {aT : Array TypeId} {cs us args : List Value} {K Φ : Value → World → Prop} (hy : Qo n ρ y = .func (.func f) #[] cs.toArray) (hf : P.funcs[f]? = some fn) (hname : (fn.name == "runtime.NumGoroutine") = false) (hb : fn.body = some c)
    (ha:(xs.map (Qo n ρ)).toList=us) (hargs:us++cs=args) (hc:CallsTo P f args w Φ) (h:∀ v w',Φ v w'->K v w'):Eff P ⟨d,.call ⟨.value y,xs,aT⟩,t,p,af,gu⟩ n ρ w K:=by
  have e:xs.map (Qo n ρ)=us.toArray:=by rw [<-ha]
  have this:∀ w es,(execOp (Qo n ρ) ⟨d,.call ⟨.value y,xs,aT⟩,t,p,af,gu⟩).runT P w es=(.ok (.enter f args.toArray) w,es):=fun w es=>by
    subst hargs;refine Eq.trans ?_ (Qol (args:=(us++cs).toArray) hf hname hb);simp_all [execOp,resolve,Deferred.ofValue,invoke,pure_bind,List.append_toArray,List.nil_append]
  refine ⟨(Tame.still _ this).fr,.inr fun w1 r=>?_⟩;rw [show (execOp (Qo n ρ) ⟨d,.call ⟨.value y,xs,aT⟩,t,p,af,gu⟩).run P w1=_ from by rw [<-Sem.runT_fst P _ w1 #[],this]];exact CallsJ.rely (CallsTo.mono hc h) r
def Qhl (H:List Value) (w:World) (b:Nat):Prop:=w.heap.size<=b\/¬ Avoids H b
theorem Chg.freshH {H0 H:List Value} {a b c:World} (h:Chg H0 a b) (k:Chg H b c) (hf:∀ x∈H,∀ n,Qt x=some n->Qhl H0 a n):Chg H0 a c :=
 ⟨k.os.trans h.os,k.tape.trans h.tape,k.output.trans h.output,Eo h.size k.size,fun i hi hA=>(k.block i (Nat.lt_of_lt_of_le hi h.size) (fun x hx e=>by
  rcases hf x hx i e with h1 | h1
  ·omega
  grind)).trans (h.block i hi hA)⟩
theorem Chg.thenE {H:List Value} {a b c:World} (h:Chg H a b) (e:Ext b c):Chg H a c:=h.trans (e.mono (fun _ h=>by cases h))
theorem Qfq {H:List Value} {v:Value} {w0:World} (h:Chg H w0 w) (c:Chg [v] w w') (hf:∀ b,Qt v=some b->Qhl H w0 b):Chg H w0 w':=Chg.freshH h c (fun x hx n e=>by simp_all)
theorem Stepp.swap2 {L:List Value} {v v':Value} {b:Nat} (h:Chg [v,.pointer (some ⟨b,0,none⟩)] w w') (hv:∀ k,Qt v'=some k->Qt v=some k\/w.heap.size<=k):Stepp (v::.pointer (some ⟨b,0,none⟩)::L) w (v'::.pointer (some ⟨b,0,none⟩)::L) w' :=
 .of (h.mono (fun y hy=>by
  grind)) fun y hy k e=>by
  grind [Qdf,Em,List.mem_cons_self]
theorem Qlc {v:Value} {b b':Nat} (h:Qt v≠some b) (h2:b'≠b):Avoids [v,.pointer (some ⟨b',0,none⟩)] b:=fun x hx e=>by
 grind [Ee,Qt]
theorem Qcv {v:Value} {b:Nat} {w0:World} (h:Ext w0 w) (c:Chg [v,.pointer (some ⟨b,0,none⟩)] w w') (hf:∀ k,Qt v=some k->w0.heap.size<=k) (hb:w0.heap.size<=b):Ext w0 w':=Chg.fresh h c (fun x hx n e=>by
 grind [Ee,Qt])
theorem Qwn {v:Value} {hi k:Nat}:Qt (Zz v 0 hi k)=Qt v:=by
 cases v<;>try rfl
 rename_i a len cap;cases a with
 | none=>simp [Zz,Qt]
 | some a =>
  simp_all [Es,Qt,Addr.add,Zz,Eu]
theorem Own.cutf {α:Type} [Rep α] {e:TypeId} {L:List Value} {v:Value} {xs ys:List α} {hi:Int} (h:Own e L w v xs) (hc:cut xs 0 hi=some ys):Own e L w (Zz v 0 hi.toNat (Rep.n α)) ys:=by
  obtain ⟨h0,h1,h2,rfl⟩:=Qfr hc;obtain ⟨cells,⟨hl,ho⟩,hel⟩:=h;have hk:hi.toNat<=xs.length:=by omega
  have hlen:((xs.take hi.toNat).drop (0:Int).toNat).length=hi.toNat:=by simp;omega
  have ht:(xs.take hi.toNat).drop (0:Int).toNat=xs.take hi.toNat:=by simp
  have hle:hi.toNat * Rep.n α<=cells.length:=by simp_all [Ea]
  refine ⟨cells.take (hi.toNat * Rep.n α),⟨by simp_all,?_⟩,?_⟩
  · rcases ho with ⟨rfl,hz⟩ | ⟨g,cap,cur,rfl,hb,hh,h4,h5,h6,h7⟩
    · grind [Zz]
    · right;refine ⟨g,cap,cur,?_,hb,hh,by omega,h5,h6,?_⟩
      · simp_all [Es,YK,Zz,Eu,Nat.sub_zero]
      grind
  · rw [ht];refine ⟨by simp_all,fun i x hx=>?_⟩;have hi2:i < hi.toNat:=by
      grind
    rw [Eb hi2] at hx;have:=hel.2 i x hx;have hlt:i * Rep.n α+Rep.n α<=hi.toNat * Rep.n α:=by rw [<-Ep];exact Ea _ hi2
    grind [Nat.min_eq_left,List.drop_take]
theorem QXq {α:Type} [Rep α] {e e2:TypeId} {L:List Value} {w2:World} {v:Value} {xs ys:List α} {k':IntKind} {hi:Int} (hu:P.underlying T=some (.slice e)) (hz:Xl P e (Rep.n α)) (hs:Own e2 L w2 v xs) (hc:cut xs 0 hi=some ys)
  (hx:Qo n ρ x=v) (hh:Qo n ρ z=.int k' hi):Yl P n ρ ⟨d,.slice T x none (some z) none,t,p,af,gu⟩ w (Zz v 0 hi.toNat (Rep.n α)) :=
 Qcl hu hz ((hs.sub (L':=[]) (fun _ h=>by cases h)).rd (fun b _=>Avoids.nil b)) hc hx hh
theorem Stepp.ren {L:List Value} {v v':Value} (h:Qt v'=Qt v):Stepp (v::L) w (v'::L) w:=Stepp.swap (Chg.refl _ _) (fun b hb=>.inl (by simp_all))
end
end Go.Gw

end
section
set_option linter.unusedSectionVars false
namespace Go.Gw
open Go
def Qgw (k:IntKind) (a b:Int):Option Int:=if 0<=b/\b<=k.bits then some (a.fdiv (2 ^ b.toNat)) else none
section
variable {P:Program} [JD P] {n:Nat} {ρ:Env} {w w':World}
variable {d:Option Nat} {t T U:TypeId} {p:String} {af:Array Edge} {gu:Option (Nat×Bool)} {x y z:Operand}
theorem Qpq {k yk:IntKind} {a b c:Int} (h:Qgw k a b=some c) (hx:Qo n ρ x=.int k a) (hy:Qo n ρ y=.int yk b):Yl P n ρ ⟨d,.binOp .shr T x y U,t,p,af,gu⟩ w (.int k c):=by
 unfold Qgw at h;split at h
 ·rename_i hb;cases h;have h1:¬ b < 0:=by omega
  have h2:min b.toNat k.bits=b.toNat:=by omega
  exact Yc fun w es=>by simp [execOp,hx,hy,eqGuard,binOp,Op.shift,h1,h2]
 ·cases h
end
theorem QKc {w:World} {a:Addr} {xs:List Int} {i el:Int} {k:IntKind} (h:At w a (xs.map (Value.int k))) (hi:idx xs i=some el):At w (a.add (i.toNat * 1)) [.int k el] :=
 At.elem h (by rw [El,(J9 hi).2.2];rfl)
end Go.Gw

end
section
set_option linter.unusedSectionVars false
namespace Go.Gw
open Go
def isnil:Value->Bool
 | .slice none _ _=>true
 | _=>false
section
variable {P:Program} [JD P] {n:Nat} {ρ:Env} {w w':World}
variable {d:Option Nat} {t T U:TypeId} {p:String} {af:Array Edge} {gu:Option (Nat×Bool)} {x y z:Operand}
theorem Qvg {α:Type} [Rep α] {e:TypeId} {L:List Value} {w2:World} {v:Value} {xs:List α} (hu:P.underlying T=some (.slice e)) (hs:SlRd L w2 v xs) (hx:Qo n ρ x=v) (hy:Qo n ρ y=.slice none 0 0) :
  Yl P n ρ ⟨d,.binOp .eql T x y U,t,p,af,gu⟩ w (.bool (isnil v)):=by
 have:∃ a m c,v=.slice a m c:=by
  rcases hs with ⟨a0,h,_⟩ | ⟨b,off,cap,cur,e,fz,h1,_⟩
  ·simp_all
  simp_all
 obtain ⟨a,m,c,rfl⟩:=this;have h1:∀ w,(Op.equal T (.slice a m c) (.slice none 0 0)).run P w=.ok a.isNone w:=fun w=>by
  grind [Op.equal,Op.maxDepth,Lib.run_equalIn_slice_nil]
 have ht:Tame P (Op.equal T (.slice a m c) (.slice none 0 0)):=by
  rw [Op.equal,show Op.maxDepth=9999+1 from rfl,Op.equalIn];refine .und hu ?_;cases a<;>exact .pure _
 have h2:a.isNone=isnil (.slice a m c):=by cases a<;>rfl
 rw [<-h2];exact Zl (Yn (by simp only [eqGuard,binOp,hx,hy];exact .bnd (.pure _) fun _=>.bnd ht fun _=>.pure _)) fun w1 _=>by simp_all [execOp,eqGuard,binOp,Result.andThen]
theorem SlRd.isnil {α:Type} [Rep α] {L:List Value} {v:Value} {xs:List α} (hs:SlRd L w v xs) (h:isnil v=true):xs=[]:=by
 rcases hs with ⟨a0,rfl,h2⟩ | ⟨b,off,cap,cur,e,fz,rfl,_⟩
 ·exact h2
 ·cases h
theorem Qss {α β:Type} {xs:List α} {f:List α->Option β} {e:Option β} {r:β} (h0:xs=[]) (h:f xs=some r) (he:f []=e):e=some r:=by simp_all
end
end Go.Gw

end
section
set_option linter.unusedSectionVars false
namespace Go.Gw
open Go
def U8:Type:=Int
instance:Rep U8:=⟨1,fun _ _ cs d=>cs=[.int .u8 d],fun h=>by subst h;rfl,fun h=>by grind [Value.oneCell'],fun _ h=>h⟩
def bl (s:ByteArray):List U8:=s.data.toList.map fun b=>((b.toNat:Nat):Int)
theorem ZV (s:ByteArray):(bl s).length=s.size:=by
 show (Ex (fun b:UInt8=>((b.toNat:Nat):Int)) s.data.toList).length=s.size;simp
theorem Qwl (a b:ByteArray):(a.toList == b.toList)=decide (a=b):=by
 rw [ByteArray.toList_eq,ByteArray.toList_eq];by_cases h:a=b
 ·grind
 ·have:¬ a.data.toList=b.data.toList:=fun e=>h (by cases a;simp_all)
  simp_all
def cat (a b:ByteArray):Option ByteArray:=if a.size+b.size<=1048576 then some (a++b) else none
def tob (s:ByteArray):Option (List U8):=if s.size<=1048576 then some (bl s) else none
section
variable {P:Program} [JD P] {n:Nat} {ρ:Env} {w:World}
variable {d:Option Nat} {t T U:TypeId} {p:String} {af:Array Edge} {gu:Option (Nat×Bool)} {x y z:Operand}
theorem Qkq {a b:ByteArray} (hx:Qo n ρ x=.string a) (hy:Qo n ρ y=.string b):Yl P n ρ ⟨d,.binOp .eql T x y U,t,p,af,gu⟩ w (.bool (decide (a=b))):=Yc fun w es=>by
 simp_all [execOp,eqGuard,binOp,Op.stringOp,Qwl]
theorem QYe {a b:ByteArray} (hx:Qo n ρ x=.string a) (hy:Qo n ρ y=.string b):Yl P n ρ ⟨d,.binOp .neq T x y U,t,p,af,gu⟩ w (.bool (!decide (a=b))):=Yc fun w es=>by
 simp_all [execOp,eqGuard,binOp,Op.stringOp,bne,Qwl]
theorem QEo {a b c:ByteArray} (h:cat a b=some c) (hx:Qo n ρ x=.string a) (hy:Qo n ρ y=.string b):Yl P n ρ ⟨d,.binOp .add T x y U,t,p,af,gu⟩ w (.string c):=Yc fun w es=>by
 unfold cat at h;split at h
 ·rename_i hc;cases h;have:¬ ((a.size+b.size:Nat):Int) > IntKind.i64.max:=by simp [IntKind.max,IntKind.bits,IntKind.signed];omega
  simp_all [execOp,eqGuard,binOp,Op.stringOp,if_neg]
 ·cases h
theorem QKo {s:ByteArray} {i:Int} {el:U8} (h:idx (bl s) i=some el):(if 0<=i then s[i.toNat]? else none)=some (UInt8.ofNat (Int.toNat el))/\(((UInt8.ofNat (Int.toNat el)).toNat:Nat):Int)=el:=by
 obtain ⟨h0,h1,h2⟩:=J9 h;rw [ZV] at h1;rw [if_pos h0,ByteArray.getElem?_lt' s _ h1];replace h2:((s.data.toList.map fun b=>((b.toNat:Nat):Int)):List Int)[i.toNat]?=some (el:Int):=h2;rw [El] at h2;obtain ⟨b,hb,hbe⟩:=Ed.1 h2;subst hbe;have e:s[i.toNat]=b:=by
  rw [Ej] at hb;obtain ⟨_,hb⟩:=hb;trivial
 simp_all
theorem Qkr {k:IntKind} {s:ByteArray} {i:Int} {el:U8} (hu:P.underlying T=some .string) (hx:Qo n ρ x=.string s) (hy:Qo n ρ y=.int k i) (h:idx (bl s) i=some el):Yl P n ρ ⟨d,.index T x y,t,p,af,gu⟩ w (.int .u8 el):=by
 obtain ⟨h1,h2⟩:=QKo h;refine Zl (Yn (QDo _ _ _)) fun w1 _=>?_;simp_all [execOp,Instr.index,asIntOf,pure_bind,Sem.run_bind,run_underlying,Result.andThen,Sem.run_pure]
def JV (s:ByteArray) (cap:Nat):Array Value:=s.data.map (fun b=>Value.int .u8 b.toNat)++Array.replicate (cap - s.size) (.int .u8 0)
def Qkd (e:TypeId) (s:ByteArray):Sem Value:=do
 let cap <-choose (.appendCap s.size 0 e)
 let b <-newObj (.cells (JV s cap) e ((JV s cap).size,(JV s cap).size+1))
 pure (.slice (some ⟨b,0,none⟩) s.size cap)
theorem QCw (e:TypeId) (s:ByteArray) (w:World) (es:Array Event):(Conv.stringToBytes e s).runT P w es=(Qkd e s).runT P w es:=by
 unfold Conv.stringToBytes Qkd markStringish;rw [show (choose (.appendCap s.size 0 e) >>= _:Sem Value)=(choose (.appendCap s.size 0 e)).bind _ from rfl,Go.Sem.runT_bind'];rw [show (choose (.appendCap s.size 0 e) >>= _:Sem Value)=(choose (.appendCap s.size 0 e)).bind _ from rfl,Go.Sem.runT_bind'];generalize (choose (.appendCap s.size 0 e)).runT P w es=r;obtain ⟨r,es⟩:=r;cases r with
 | halt h w=>rfl
 | ok cap w =>
  simp only [newRow,newObj,shape,freeze,Bind.bind,Sem.bind,Pure.pure,Sem.runT,World.shape?,Array.getElem?_push_size];unfold World.freeze;simp only [Nat.one_ne_zero,if_false];congr 2;congr 1;apply Array.ext_getElem?;intro i;rw [Array.getElem?_modify,Array.getElem?_push,Array.getElem?_push];by_cases hi:w.heap.size=i
  ·grind [JV]
  grind
theorem QVw (e:TypeId) (s:ByteArray):Tame P (Conv.stringToBytes e s) :=
 .same _ _ (QCw e s) (.bnd (Qez _) fun cap=>.bnd (Qkk _ rfl) fun b=>.pure _)
theorem QVn {e:TypeId} {s:ByteArray} (hu:P.underlying T=some .string) (hU:P.underlying U=some (.slice e)) (he:P.underlying e=some (.int .u8)):Tame P (convert T U (.string s)):=by
 unfold convert;exact .und hu (.und hU (.und he (QVw _ _)))
theorem QIc (s:ByteArray) (cap:Nat) (L:List Value):Elems L w (((JV s cap).toList.drop 0).take (s.size * Rep.n U8)) (bl s):=by
 have e1:Rep.n U8=1:=rfl;have hl:(s.data.toList.map fun b=>Value.int .u8 b.toNat).length=s.size:=by simp
 have e2:((JV s cap).toList.drop 0).take (s.size * Rep.n U8)=s.data.toList.map fun b=>Value.int .u8 b.toNat:=by
  simp_all [List.take_append_of_le_length,Nat.le_refl,List.take_of_length_le,JV,Array.toList_append,Array.toList_map,Eh,List.drop_zero]
 rw [e2];refine ⟨by rw [hl,ZV,e1,Eh],fun i x hx=>?_⟩;rw [e1,Eh];replace hx:((s.data.toList.map fun b=>((b.toNat:Nat):Int)):List Int)[i]?=some (x:Int):=hx;rw [El] at hx;obtain ⟨b,hb,hbe⟩:=Ed.1 hx;subst hbe;show ((s.data.toList.map fun b=>Value.int .u8 b.toNat).drop i).take 1=[.int .u8 (b.toNat:Int)]
 grind [En,List.length_map,Ej]
theorem QHx {e:TypeId} {s:ByteArray} {xs:List U8} {L:List Value} {K:Value->World->Prop} (hu:P.underlying T=some .string) (hU:P.underlying U=some (.slice e)) (he:P.underlying e=some (.int .u8)) (hx:Qo n ρ x=.string s) (hs:tob s=some xs) (hlt:LtL L w)
    (h:∀ v w',Ext w w'->SlRd L w' v xs->K v w'):Eff P ⟨d,.convert T U x,t,p,af,gu⟩ n ρ w K:=by
  unfold tob at hs;split at hs
  · rename_i hsz;cases hs;refine Ju (Yn (by grind [QVn])) fun w1 e1=>?_;have hrun:(convert T U (.string s)).run P w1=(Qkd e s).run P w1:=by
      have h1:=QCw (P:=P) e s w1 #[];simp_all [Sem.runT_fst,convert,Conv.stringToBytes,run_underlying]
    generalize hcap:Question.cut (.appendCap s.size 0 e) (w1.tape w1.drawn (.appendCap s.size 0 e))=cap;have hcb:s.size<=cap/\cap<=maxLen:=by
      rw [<-hcap];simp only [Question.cut];have:=Nat.mod_lt (w1.tape w1.drawn (.appendCap s.size 0 e)) (show 0 < 2 ^ 63 - s.size by omega)
      grind [maxLen]
    have hr2:(Qkd e s).run P w1=.ok (.slice (some ⟨w1.heap.size,0,none⟩) s.size cap) { w1 with drawn:=w1.drawn+1,heap:=w1.heap.push (.cells (JV s cap) e ((JV s cap).size,(JV s cap).size+1)) }:=by
      simp [Qkd,choose,newObj,Sem.run,Question.forced,hcap,Bind.bind,Sem.bind,Pure.pure]
    simp only [execOp,hx,Sem.run_bind,hrun,hr2,Result.andThen,Sem.run_pure,effR];refine h _ _ (e1.trans ⟨rfl,rfl,rfl,by simp,fun b hb _=>by grind⟩) ?_;refine .inr ⟨w1.heap.size,0,cap,JV s cap,e,((JV s cap).size,(JV s cap).size+1),by rw [ZV],by simp,fun x hx e=>?_,by grind [ZV],hcb.2,?_,?_⟩
    · have:=hlt x hx _ e;have:=e1.size;omega
    · simp_all [JV,Rep.n,U8]
    grind [ZV,QIc]
  · cases hs
end
end Go.Gw

end
section
set_option linter.unusedSectionVars false
namespace Go.Gw
open Go
section
variable {P:Program} [JD P] {n:Nat} {ρ:Env} {w:World}
variable {d:Option Nat} {t T U:TypeId} {p:String} {af:Array Edge} {gu:Option (Nat×Bool)} {x y z:Operand}

def cutf (v:Value) (hi k:Nat):Value:=match v with
 | .slice a _ _=>.slice (if hi=0 then a else a.map (·.add (0 * k))) hi hi
 | v=>v
def Qkw (v:Value):Prop:=∃ a k,v=.slice a k k

theorem SlRd.cutF {α:Type} [Rep α] {L:List Value} {w:World} {v:Value} {xs ys:List α} {hi:Int} (hs:SlRd L w v xs) (hc:Gw.cut xs 0 hi=some ys):SlRd L w (cutf v hi.toNat (Rep.n α)) ys:=by
  obtain ⟨h0,h1,h2,rfl⟩:=Qfr hc;have hk:hi.toNat<=xs.length:=by omega
  rcases hs with ⟨a0,rfl,rfl⟩ | ⟨b,off,cap,cur,e,fz,rfl,hb,hA,h4,h5,h6,h7⟩
  · have:hi=0:=by grind
    subst this;exact .inl ⟨a0,by rfl,by simp⟩
  · have hlen:((xs.take hi.toNat).drop (0:Int).toNat).length=hi.toNat:=by simp;omega
    have ht:(xs.take hi.toNat).drop (0:Int).toNat=xs.take hi.toNat:=by simp
    have hmul:=Ea (Rep.n α) hk;have hmul2:=Ea (Rep.n α) h4;refine .inr ⟨b,off,hi.toNat,cur,e,fz,?_,hb,hA,by omega,by omega,by omega,?_⟩
    · simp_all [Es,Eu,YK,cutf]
    · rw [hlen,ht];refine ⟨by grind,fun i x hx=>?_⟩;have hi2:i < hi.toNat:=by
        grind
      rw [Eb hi2] at hx;have:=h7.2 i x hx;have hlt:i * Rep.n α+Rep.n α<=hi.toNat * Rep.n α:=by rw [<-Ep];exact Ea _ hi2
      grind [Nat.min_eq_left,List.drop_take]
theorem QXp {α:Type} [Rep α] {e:TypeId} {L:List Value} {w2:World} {v:Value} {xs ys:List α} {k k':IntKind} {hi:Int} {u:Operand} (hu:P.underlying T=some (.slice e)) (hz:Xl P e (Rep.n α)) (hs:SlRd L w2 v xs) (hc:cut xs 0 hi=some ys)
  (hx:Qo n ρ x=v) (hh:Qo n ρ z=.int k hi) (hm:Qo n ρ u=.int k' hi):Yl P n ρ ⟨d,.slice T x none (some z) (some u),t,p,af,gu⟩ w (cutf v hi.toNat (Rep.n α)):=by
 obtain ⟨h0,h1,h2,_⟩:=Qfr hc;obtain ⟨a,cap,hv,_⟩:=hs.shape;have hcap:xs.length<=cap:=by
  rcases hs with ⟨a0,rfl,rfl⟩ | ⟨b,off,cap',cur,e,fz,rfl,hb,hA,h4,_⟩
  ·simp
  simp_all
 subst hv;refine Zl (Yn (Qdn _ _ _ _ _)) fun w1 _=>?_;have e1:=Qgt (P:=P) (w:=w1) (k:=k') (i:=hi) (y:=cap) (c:=.slice3Acap) (by omega) (by omega);have e2:=Qgt (P:=P) (w:=w1) (k:=k) (i:=hi) (y:=hi.toNat) (c:=.slice3B) (by omega) (by omega);simp [execOp,hx,hh,hm,Instr.sliceAt,Instr.slice,run_underlying hu,Instr.sliceBounds,e1,e2,ZE hz,cutf]

theorem QTh {α:Type} [Rep α] {e:TypeId} {bytes:Nat} {zz:Value} {L:List Value} {v vx:Value} {xs ys:List α}
    (hu:P.underlying T=some (.slice e)) (hi:EInfo P e (Rep.n α) bytes zz) (hr:SlRd L w v xs) (hf:Qkw v) (hs:SlRd L w vx ys) (hne:0 < ys.length)
    (hb:(xs.length+ys.length) * bytes<=140737488355328) (hm:xs.length+ys.length<=maxLen) :
    ∃ v' w',(Builtin.append_ #[T,T] t #[v,vx]).run P w=.ok v' w'/\Ext w w'/\(∀ b,Qt v'=some b->w.heap.size<=b)/\Own e (v'::L) w' v' (xs++ys):=by
  obtain ⟨i,h1,h2,h3,h4,h5,h6⟩:=hi.ex;rcases hs with ⟨a0,rfl,rfl⟩ | ⟨b,off,cap,cur,e',fz,rfl,hblk,hA,hcap,hcm,hsz,hely⟩
  · simp at hne
  have hnl:(((cur.toList.drop off).take (ys.length * Rep.n α))).length=ys.length * Rep.n α:=hely.1;have hnews:∀ j u,((cur.toList.drop off).take (ys.length * Rep.n α))[j]?=some u->w.cell? ((⟨b,off,none⟩:Addr).add j)=some u:=fun j u hu=>by
    grind [World.cell?,Eb,Rep.n,Er,Ei,YK]
  -- what lies there
  obtain ⟨olds,hol,hoe⟩:∃ olds:List Value,olds.length=xs.length * Rep.n α/\Elems L w olds xs:=by
    rcases hr with ⟨a0,rfl,rfl⟩ | ⟨_,_,_,_,_,_,_,_,_,_,_,_,h7⟩
    · simp_all [Elems.nil]
    · exact ⟨_,h7.1,h7⟩
  have grown : ∀ (olds : List Value), olds.length = xs.length * Rep.n α -> Elems L w olds xs -> (Builtin.append_ #[T, T] t #[v, .slice (some ⟨b, off, none⟩) ys.length cap]).run P w = .ok (.slice (some ⟨w.heap.size, 0, none⟩) (xs.length + ys.length) (grownCap w (xs.length + ys.length) xs.length e)) (w.drew.alloc (.cells (olds.toArray ++ ((cur.toList.drop off).take (ys.length * Rep.n α)).toArray ++ Builtin.zeroCells zz.cells (grownCap w (xs.length + ys.length) xs.length e - (xs.length + ys.length))) e)) ->
      ∃ v' w',(Builtin.append_ #[T,T] t #[v,.slice (some ⟨b,off,none⟩) ys.length cap]).run P w=.ok v' w'/\Ext w w'/\(∀ b,Qt v'=some b->w.heap.size<=b)/\Own e (v'::L) w' v' (xs++ys):=fun olds hol hoe hr=>by
    have hge:=grownCap_ge w (xs.length+ys.length) xs.length e;have hcm:grownCap w (xs.length+ys.length) xs.length e<=maxLen:=grownCap_le_maxLen w _ _ e hm;have hE:Ext w (w.drew.alloc (.cells (olds.toArray++((cur.toList.drop off).take (ys.length * Rep.n α)).toArray++Builtin.zeroCells zz.cells (grownCap w (xs.length+ys.length) xs.length e - (xs.length+ys.length))) e)) :=
      ⟨rfl,rfl,rfl,by simp,fun k hk _=>heap_alloc_old w.drew _ hk⟩
    have hfr:∀ k,Qt (.slice (some ⟨w.heap.size,0,none⟩) (xs.length+ys.length) (grownCap w (xs.length+ys.length) xs.length e))=some k->w.heap.size<=k:=fun k hk=>by grind [Qt]
    have hlen:(olds++((cur.toList.drop off).take (ys.length * Rep.n α))).length=(xs.length+ys.length) * Rep.n α:=by grind
    refine ⟨_,_,hr,hE,hfr,olds++((cur.toList.drop off).take (ys.length * Rep.n α)),⟨by simp_all,.inr ⟨w.heap.size,_,_,by simp,Ew _,heap_alloc_new w.drew _,by simp_all,hcm,?_,?_⟩⟩,?_⟩
    · simp only [Array.size_append,List.size_toArray,size_zeroCells,h5,hol,hnl,<-Nat.add_mul];simp_all
    · grind
    · exact (hoe.append hely).step (Stepp.add _ hE hfr)
  obtain ⟨a,k,hv⟩:=hf;rcases hr with ⟨a0,rfl,rfl⟩ | ⟨b2,off2,cap2,cur2,e2,fz2,rfl,hblk2,hA2,hcap2,hcm2,hsz2,hely2⟩
  · refine grown [] (by simp) Elems.nil ?_;cases a0 with
    | none =>
      have hr:=run_append_nil (P:=P) w T t e i zz hu h1 h4 ⟨b,off,none⟩ ys.length cap _ (by simp_all) hnews hne (by simp only [List.length_nil,Nat.zero_add] at hm;grind [maxLen]) (by grind);simpa using hr
    | some a0 =>
      have hr:=run_append_grow (P:=P) w T t e i zz hu h1 h4 a0 0 0 [] (by simp) (fun j v hv=>by simp at hv) ⟨b,off,none⟩ ys.length cap _ (by simp_all) hnews (by omega) (by simp only [List.length_nil,Nat.zero_add] at hm;grind [maxLen]) (growslice_fits (by omega) (by grind));omega
  · cases hv;have holds:∀ j u,((cur2.toList.drop off2).take (xs.length * Rep.n α))[j]?=some u->w.cell? ((⟨b2,off2,none⟩:Addr).add j)=some u:=fun j u hu=>by
      grind [World.cell?,Eb,Rep.n,Er,Ei,YK]
    refine grown _ hely2.1 hely2 ?_;exact run_append_grow (P:=P) w T t e i zz hu h1 h4 ⟨b2,off2,none⟩ xs.length xs.length _ (by grind) holds ⟨b,off,none⟩ ys.length cap _ (by simp_all) hnews (by omega) (by grind [maxLen]) (growslice_fits (by omega) (by simp_all))

theorem QTj {α:Type} [Rep α] {e:TypeId} {bytes:Nat} {zz:Value} {L:List Value} {v vx:Value}
  (hu:P.underlying T=some (.slice e)) (hi:EInfo P e (Rep.n α) bytes zz) (hf:Qkw v) (hs:SlRd L w vx ([]:List α)):(Builtin.append_ #[T,T] t #[v,vx]).run P w=.ok v w:=by
 obtain ⟨i,h1,h2,h3,h4,h5,h6⟩:=hi.ex;obtain ⟨av,k,rfl⟩:=hf;obtain ⟨a0,c,rfl,_⟩:=hs.shape;have hl0:∀ a:Addr,(loadCells a 0).run P w=.ok #[] w:=fun a=>run_loadCells_list (P:=P) w a [] (fun j v hv=>by simp at hv)
 simp [Builtin.append_,run_underlying hu,sizeOf,typeInfo,h1,Builtin.lenOf,Builtin.firstCells];cases av<;>cases a0<;>simp [storeCells,hl0]
theorem ZA {α:Type} [Rep α] {e:TypeId} {bytes:Nat} {zz:Value} {L:List Value} {v vx:Value} {xs ys zs:List α} {K:Value->World->Prop} {aT:Array TypeId}
  (hu:P.underlying T=some (.slice e)) (hi:EInfo P e (Rep.n α) bytes zz) (hbm:Ef bytes 65536=true) (hT:aT=#[T,T]) (hx:Qo n ρ x=v) (hy:Qo n ρ y=vx) (hown:Own e (v::L) w v xs) (hf:Qkw v) (hs:SlRd (v::L) w vx ys)
  (hz:app xs ys=some zs)
  (h:∀ v' w',Ext w w'->(∀ b,Qt v'=some b->Qt v=some b\/w.heap.size<=b)->Own e (v'::L) w' v' zs->K v' w'):Eff P ⟨d,.call ⟨.builtin .append,#[x,y],aT⟩,t,p,af,gu⟩ n ρ w K:=by
 subst hT;obtain ⟨hb,rfl⟩:=Qwb hz;have hbm:bytes<=65536:=by simpa using hbm
 have:(xs.length+ys.length) * bytes<=1073741824 * 65536:=Ek hb hbm;have e0:execOp (Qo n ρ) ⟨d,.call ⟨.builtin .append,#[x,y],#[T,T]⟩,t,p,af,gu⟩=(Builtin.append_ #[T,T] t #[v,vx] >>= fun v=>Pure.pure (Next.value v)):=by
  simp [execOp,resolve,invoke,builtin,hx,hy]
 refine Ju (by grind [Yn,QDi]) fun w1 e1=>?_;rw [e0];have hown1:=hown.step (Stepp.ext e1) e1 (fun _ _=>Avoids.nil _);have hs1:=hs.step (Stepp.ext e1);rcases Nat.eq_zero_or_pos ys.length with hz | hz
 ·grind [Sem.run_bind,QTj,Result.andThen,Sem.run_pure,effR,List.eq_nil_of_length_eq_zero]
 ·obtain ⟨v',w',hr,hc,hbl,ho⟩:=QCg (P:=P) (t:=t) hu hi hown1 hs1 (by omega) (by unfold maxLen;omega);obtain ⟨v2,w2,hr2,he2,_⟩:=QTh (P:=P) (t:=t) hu hi ((hown1.sub (L':=[]) (fun _ h=>by cases h)).rd (fun b _=>Avoids.nil b)) hf (hs1.sub (fun _ h=>by cases h)) hz (by omega) (by unfold maxLen;omega);rw [hr] at hr2;cases hr2;simp only [Sem.run_bind,hr,Result.andThen,Sem.run_pure,effR];exact h v' w' (e1.trans he2) (fun b hb=>(hbl b hb).imp id fun h=>Eo e1.size h) ho
theorem JE {α:Type} [Rep α] {e:TypeId} {bytes:Nat} {z:Value} {L:List Value} {K:Value->World->Prop} (hu:P.underlying T=some (.slice e)) (hi:EInfo P e (Rep.n α) bytes z)
  (h:∀ v w',Ext w w'->(∀ b,Qt v=some b->w.heap.size<=b)->Own e (v::L) w' v ([]:List α)->Qkw v->K v w'):Eff P ⟨d,.buildSlice T 0 #[],t,p,af,gu⟩ n ρ w K :=
 Qqw (xs:=[]) (cells:=[]) hu hi (by simp) (by simp [Qal,Qdr]) Elems.nil rfl fun _ w' hb he _ ho=>h _ w' he (fun k hk=>by grind [Qt]) ho ⟨_,_,rfl⟩
/-! ### Whether an own slice is nil, told by its list -/
/-! ### Pointers that lie in arrays; loops of few rounds -/
theorem XW {a:Addr} (hx:Qo n ρ x=.pointer (some a)):Yl P n ρ ⟨d,.nilCheck x,t,p,af,gu⟩ w (.pointer (some a)):=Yc fun w es=>by
 simp_all [execOp]
theorem Qpo {m e:Nat} {k:IntKind} {i:Int} {cs:List Value} {v:Value} (hu:P.underlying T=some (.array m e)) (hs:YX P e) (hz:Xl P e 1) (h0:0<=i) (h1:i < m) (hx:Qo n ρ x=.agg cs.toArray) (hy:Qo n ρ y=.int k i)
  (hv:cs[i.toNat]?=some v):Yl P n ρ ⟨d,.index T x y,t,p,af,gu⟩ w v:=by
 refine Zl (Yn (QDo _ _ _)) fun w1 _=>?_;have hp:(part e cs.toArray (i.toNat * 1)).run P w1=.ok v w1:=QTm hs (by simp_all);simp [execOp,hx,hy,Instr.index,asIntOf,run_underlying hu,h0,h1,ZE hz] at hp ⊢;simp [hp]
theorem Qku {s q:TypeId} {i j:Int} {b:Bool} (hb:decide (i < j)=b) (hx:Qo n ρ x=.int .i64 i) (hy:Qo n ρ y=.int .i64 j):Yl P n ρ ⟨d,.binOp .lss s x y q,t,p,af,gu⟩ w (.bool b):=hb▸Xe hx hy
theorem Qpl {s q:TypeId} {i j r:Int} (hb:w64 (i+j)=r) (hx:Qo n ρ x=.int .i64 i) (hy:Qo n ρ y=.int .i64 j):Yl P n ρ ⟨d,.binOp .add s x y q,t,p,af,gu⟩ w (.int .i64 r):=hb▸Q2 hx hy
def unr (P:Program) [JD P] (n:Nat) (c:Code) (q:Post):Nat->Env->World->Prop
 | 0=>fun _ _=>False
 | k+1=>fun ρ w=>WC P n c ⟨unr P n c q k,q.ex,q.ret⟩ ρ w
theorem Qkm {c:Code} {q:Post} (k:Nat) (h:WC P n c ⟨unr P n c q k,q.ex,q.ret⟩ ρ w):unr P n c q (k+1) ρ w:=h
theorem QFn {c:Code} {q:Post} (k:Nat) (h:unr P n c q k ρ w):WC P n (.loop c) q ρ w:=by
 have hi:∀ k,Y4 (fun i:Nat=>match i with | 0=>some (.inr ()) | i+1=>some (.inl (β:=Unit) i)) (k+1) k=some ():=by
  intro k
  induction k with
  | zero=>rfl
  | succ k ih=>exact ih
 refine Qvo (fun s ρ w=>unr P n c q s ρ w) (hi k) h fun s ρ w hI=>?_;cases s with
 | zero=>exact hI.elim
 | succ s=>exact ⟨fun s' hs=>by cases hs;exact hI,fun hs=>nomatch hs⟩
theorem QHw {α:Type} [Rep α] {e:TypeId} {L:List Value} {v:Value} {xs:List α} {i:Int} {el y':α} {off:Nat} {u:Value} {K:Value->World->Prop} (hs:Xl P T u.cells.size) (hown:Own e L w v xs) (hv:v∈L) (hel:idx xs i=some el)
    (hx:Qo n ρ x=.pointer (some ((YU v i.toNat (Rep.n α)).add off))) (hy:Qo n ρ y=u) (hl:off+u.cells.size<=Rep.n α) (h1:∀ c∈u.cells.toList,c.oneCell'=true)
    (hset:∀ w',Chg [v] w w'->∀ cs,Rep.rd L w' cs el->Rep.rd L w' (YW cs off u.cells.toList) y')
    (h:∀ w',Chg [v] w w'->Own e L w' v (xs.set i.toNat y')->K undef w'):Eff P ⟨d,.store T x y,t,p,af,gu⟩ n ρ w K:=by
  refine Ju (Quw (Quv _ _ _)) fun w1 e1=>?_;replace hown:=hown.step (Stepp.ext e1) e1 (fun _ _=>Avoids.nil _);obtain ⟨h0,hi,h2⟩:=J9 hel;obtain ⟨cells,ho,hE⟩:=hown;rcases ho.2 with ⟨_,hh⟩ | ⟨g,cap,cur,rfl,_,hg,h4,h5,hcs,htake⟩
  · omega
  · have hlen : i.toNat * Rep.n α + off + 0 + u.cells.toList.length <= cells.length := by
      have:(i.toNat+1) * Rep.n α<=xs.length * Rep.n α:=Ea _ hi;rw [Ep] at this;rw [hE.1];simp;omega
    obtain ⟨w',hr,ho2,hg2⟩:=Qtr (P:=P) u.cells.toList (i.toNat * Rep.n α+off) 0 cells w1 ho hlen h1;have hx':Qo n ρ x=.pointer (some ⟨g,i.toNat * Rep.n α+off,none⟩):=by grind [YU,YK]
    have hst:(Instr.storeAt T (.pointer (some ⟨g,i.toNat * Rep.n α+off,none⟩)) u).run P w1=.ok () w':=by
      simp [Instr.storeAt,Instr.sureAddr,storeVar,ZE hs,hr]
    simp only [execOp,hx',hy,Sem.run_bind,hst,Result.andThen,Sem.run_pure,effR];have hc:Chg [Value.slice (some ⟨g,0,none⟩) xs.length cap] w1 w':=⟨hg2.os,hg2.tape,hg2.output,hg2.size,fun b hb hA=>hg2.block b hb (fun e=>hA _ (Ee.2 rfl) (by cases e;rfl))⟩;refine h w' ((e1.mono (fun _ h=>by cases h)).trans hc) ⟨_,by rw [List.length_set];exact ho2,?_⟩;have hE':=hE.step (Qn hc hv);refine ⟨by rw [QCo,List.length_set];exact hE.1,fun j b hb=>?_⟩;by_cases hj:j=i.toNat
    · subst hj;rw [List.getElem?_set_self hi] at hb;cases hb;rw [Ev,QCq _ _ _ _ _ (by omega)];exact hset _ ((e1.mono (fun _ h=>by cases h)).trans hc) _ (hE'.2 _ _ h2)
    · rw [List.getElem?_set_ne (Ne.symm hj)] at hb;rw [Ev,QCp]
      · exact hE'.2 _ _ hb
      · rcases Er j i.toNat with hlt | hge
        · left;have:(j+1) * Rep.n α<=i.toNat * Rep.n α:=Ea _ hlt
          grind
        · right;have:(i.toNat+1) * Rep.n α<=j * Rep.n α:=Ea _ (by omega)
          grind
theorem QHv {α:Type} [Rep α] {e:TypeId} {L:List Value} {v:Value} {xs:List α} {i:Int} {el y':α} {off k:Nat} {u:Value} {vs:List Value} {K:Value->World->Prop} (hs:Xl P T k) (hc:u.cells.toList=vs) (hk:vs.length=k) (hown:Own e L w v xs) (hv:v∈L) (hel:idx xs i=some el)
  (hx:Qo n ρ x=.pointer (some ((YU v i.toNat (Rep.n α)).add off))) (hy:Qo n ρ y=u) (hl:Ef (off+k) (Rep.n α)=true) (h1:∀ c∈vs,c.oneCell'=true)
  (hset:∀ w',Chg [v] w w'->∀ cs,Rep.rd L w' cs el->Rep.rd L w' (YW cs off vs) y')
  (h:∀ w',Chg [v] w w'->Own e L w' v (xs.set i.toNat y')->K undef w'):Eff P ⟨d,.store T x y,t,p,af,gu⟩ n ρ w K:=by
 subst hc;subst hk;have e:u.cells.toList.length=u.cells.size:=by simp
 exact QHw (by trivial) hown hv hel hx hy (by simp_all) h1 hset h
theorem Q4 {v:Value} {b off:Nat} {cs vs:List Value} {T':TypeId} {K:Value->World->Prop} {k:Nat} (hs:Xl P T k) (hv:v.cells.toList=vs) (hk:vs.length=k) (hx:Qo n ρ x=.pointer (some ⟨b,off,none⟩)) (hy:Qo n ρ y=v)
  (hb:Box w b cs T') (hl:Ef (off+k) cs.length=true) (h1:∀ u∈vs,u.oneCell'=true) (hcs:YW cs off vs=vs)
  (h:∀ w',Chg [.pointer (some ⟨b,0,none⟩)] w w'->Box w' b vs T'->K undef w'):Eff P ⟨d,.store T x y,t,p,af,gu⟩ n ρ w K:=Je hs hv hk hx hy hb hl h1 hcs h
theorem Q1 (w:World):Ext w w:=Chg.refl _ _
structure Way (L0:List Value) (w0:World) (L:List Value) (w:World):Prop where
 s:Stepp L0 w0 L w
theorem Way.refl (L:List Value) (w:World):Way L w L w:=⟨Stepp.sub w fun _ h=>h⟩
theorem Way.step {L0 L L':List Value} {w0 w w':World} (h:Way L0 w0 L w) (s:Stepp L w L' w'):Way L0 w0 L' w':=⟨h.s.trans s⟩
theorem Way.ext {L0 L:List Value} {w0 w w':World} (h:Way L0 w0 L w) (e:Ext w w'):Way L0 w0 L w':=h.step (Stepp.ext e)
theorem Way.sub {L0 L L':List Value} {w0 w:World} (h:Way L0 w0 L w) (hs:∀ x∈L',x∈L):Way L0 w0 L' w:=h.step (Stepp.sub w hs)
theorem SlRd.way {α:Type} [Rep α] {L0 L:List Value} {w0 w:World} {v:Value} {xs:List α} (h:SlRd L0 w0 v xs) (s:Way L0 w0 L w):SlRd L w v xs:=h.step s.s
theorem Rep.rd.way {α:Type} [Rep α] {L0 L:List Value} {w0 w:World} {cs:List Value} {a:α} (h:Rep.rd L0 w0 cs a) (s:Way L0 w0 L w):Rep.rd L w cs a:=Rep.step s.s h
theorem Way.way {L0 L1 L:List Value} {w0 w1 w:World} (h:Way L0 w0 L1 w1) (s:Way L1 w1 L w):Way L0 w0 L w:=h.step s.s
end
end Go.Gw

end
section
set_option linter.unusedSectionVars false
namespace Go.Gw
open Go
section
variable {α:Type} [Rep α] {L L':List Value} {w w':World} {b:Nat} {d:α} {v:Value} {o:Option α}
def PtAt (L:List Value) (w:World) (b:Nat) (d:α):Prop:=∃ (cs:List Value) (T:TypeId) (fz:Nat×Nat),w.heap[b]?=some (.cells cs.toArray T fz)/\Avoids L b/\Rep.rd L w cs d
theorem PtAt.step (h:PtAt L w b d) (s:Stepp L w L' w'):PtAt L' w' b d:=by
 obtain ⟨cs,T,fz,h1,h2,h3⟩:=h;obtain ⟨⟨fz',h4⟩,h5⟩:=s.keeps h1 h2;exact ⟨cs,T,fz',h4,h5,Rep.step s h3⟩
theorem PtAt.ext (h:PtAt L w b d) (e:Ext w w'):PtAt L w' b d:=h.step (Stepp.ext e)
theorem PtAt.at (h:PtAt L w b d):∃ cs,At w ⟨b,0,none⟩ cs/\Rep.rd L w cs d:=by
 obtain ⟨cs,T,fz,h1,_,h3⟩:=h
 grind [At.of_block]
def PtRd (L:List Value) (w:World) (v:Value):Option α->Prop
 | none=>v=.pointer none
 | some d=>∃ b,v=.pointer (some ⟨b,0,none⟩)/\PtAt L w b d
theorem PtRd.step (h:PtRd L w v o) (s:Stepp L w L' w'):PtRd L' w' v o:=by
 cases o with
 | none=>exact h
 | some d=>obtain ⟨b,h1,h2⟩:=h;exact ⟨b,h1,h2.step s⟩
theorem PtRd.ext (h:PtRd L w v o) (e:Ext w w'):PtRd L w' v o:=h.step (Stepp.ext e)
theorem PtRd.sub (h:PtRd L w v o) (hs:∀ x∈L',x∈L):PtRd L' w v o:=h.step (Stepp.sub w hs)
theorem PtRd.way {L0:List Value} {w0:World} (h:PtRd L0 w0 v o) (s:Way L0 w0 L w):PtRd L w v o:=h.step s.s
theorem PtRd.one1 (h:PtRd L w v o):v.oneCell'=true:=by
 cases o with
 | none=>cases h;rfl
 | some d=>obtain ⟨b,rfl,_⟩:=h;rfl
theorem PtRd.nil (L:List Value) (w:World):PtRd L w (.pointer none) (none:Option α):=rfl
theorem PtRd.is (h:PtRd L w v (some d)):∃ b,v=.pointer (some ⟨b,0,none⟩)/\PtAt L w b d:=h
theorem PtRd.of_box {cs:List Value} {T:TypeId} (h:Box w b cs T) (hA:Avoids L b) (hr:Rep.rd L w cs d):PtRd L w (.pointer (some ⟨b,0,none⟩)) (some d):=⟨b,rfl,cs,T,(0,0),h,hA,hr⟩
theorem Qcu {b2 b:Nat} (h:b2≠b):Qt (.pointer (some ⟨b2,0,none⟩))≠some b:=fun e=>h (by grind [Qt])
theorem PtRd.get (h:PtRd L w v o) {r:α} (ho:o=some r):∃ b,v=.pointer (some ⟨b,0,none⟩)/\PtAt L w b r:=by subst ho;exact h
end
instance {α:Type} [Rep α]:Rep (Option α):=⟨1,fun L w cs o=>∃ v,PtRd L w v o/\cs=[v],fun ⟨v,_,h⟩=>by subst h;rfl,fun ⟨v,h1,h⟩ u hu=>by subst h;rw [Ee.1 hu];exact h1.one1,fun s ⟨v,h1,h⟩=>⟨v,h1.step s,h⟩⟩
section
variable {P:Program} [JD P] {n:Nat} {ρ:Env} {w:World} {d:Option Nat} {t T U:TypeId} {p:String} {af:Array Edge} {gu:Option (Nat×Bool)} {x y:Operand}
theorem YT {v:Value} {b:Nat} (hv:v=.pointer (some ⟨b,0,none⟩)) (hx:Qo n ρ x=v):Yl P n ρ ⟨d,.nilCheck x,t,p,af,gu⟩ w (.pointer (some ⟨b,0,none⟩)):=XW (hx.trans hv)
/-! ### A slice of zero structs -/
theorem Qsn (z:Array Value) (m:Nat) (hz:0 < z.size):(madeCells z (m * z.size)).toList=(Ec m z.toList).flatten:=by
 unfold madeCells;simp only [Array.toList_map,Array.toList_range]
 induction m with
 | zero=>simp
 | succ m ih =>
  rw [Ep,Nat.add_comm,List.range_add,List.map_append,Et,Eg,List.flatten_cons,<-ih];congr 1
  ·apply List.ext_getElem
   ·simp
   grind [Nat.mod_eq_of_lt]
  simp
theorem Elems.rep {α:Type} [Rep α] {L:List Value} {w:World} {cs:List Value} {zero:α} (hz:Rep.rd L w cs zero):∀ m:Nat,Elems L w (Ec m cs).flatten (Ec m zero)
 | 0=>Elems.nil
 | m+1=>by
  rw [Eg,Eg,List.flatten_cons];exact Elems.cons hz (Elems.rep hz m)
theorem Qxh {α:Type} [Rep α] {e:TypeId} {bytes s:Nat} {c:Value} {zcs:List Value} {L:List Value} {i:Int} {zero:α} {xs:List α} {k k':IntKind} {K:Value->World->Prop} (hs:Rep.n α=s) (h0s:Ef 1 s=true) (h1s:Ef s 16=true) (hu:P.underlying T=some (.slice e)) (hi:EInfo P e s bytes c) (hcc:c.cells=zcs.toArray) (hcl:zcs.length=s)
    (hbm:Ef bytes 65536=true) (hz:∀ L w,Rep.rd L w zcs zero) (hx:Qo n ρ x=.int k i) (hy:Qo n ρ y=.int k' i) (hm:mk i zero=some xs)
    (h:∀ v w',Ext w w'->(∀ b,Qt v=some b->w.heap.size<=b)->Own e (v::L) w' v xs->K v w'):Eff P ⟨d,.makeSlice T x y,t,p,af,gu⟩ n ρ w K:=by
  obtain ⟨h0,hmax,rfl⟩:=Qnd hm;obtain ⟨ti,g1,g2,g3,g4,_,_⟩:=hi.ex;have hbm:bytes<=65536:=by simpa using hbm
  have h0s:1<=s:=by trivial
  have h1s:s<=16:=by simpa using h1s
  obtain ⟨m,rfl⟩:∃ m:Nat,i=(m:Int):=⟨i.toNat,by omega⟩;have hmm:m<=1048576:=by omega
  have hb:ti.bytes * m<=281474976710656:=by
    rw [g3]
    calc bytes * m<=65536 * 1048576:=Ek hbm hmm
      _<=_:=by decide
  have hms:m * s<=16777216:=Eo (Ek hmm h1s) (by decide);refine Ju (Yn (Qus _ _ _)) fun w1 e1=>?_;obtain ⟨w',hr,ho,hg⟩:=run_makeSlice_full (P:=P) (w:=w1) 0 T e ti c s hu g1 g4 g2 k k' m (by omega) hb (by unfold maxLen;omega) (Ew _);have he:Ext w1 w':=⟨hg.os,hg.tape,hg.output,hg.size,fun b hb _=>hg.block b hb (fun e=>by cases e)⟩;simp only [execOp,hx,hy,Sem.run_bind,hr,Result.andThen,Sem.run_pure,effR];refine h _ w' (e1.trans he) (fun b hb=>by have:=e1.size;grind [Qt]) ⟨(madeCells c.cells (m * s)).toList,?_,?_⟩
  · simp_all
  grind [Qsn,Int.toNat_natCast,Elems.rep]
end
end Go.Gw

end
section
set_option linter.unusedSectionVars false
namespace Go.Gw
open Go
section
variable {P:Program} [JD P]
theorem QVi {T I e:TypeId} {k:IntKind} (hu:P.underlying T=some (.slice e)) (hI:P.underlying I=some (.int k)) (t:TypeId) (v x:Value):Tame P (Builtin.append_ #[T,I] t #[v,x]):=by
 unfold Builtin.append_;dsimp only [List.getElem?_toArray,List.getElem?_cons_zero,List.getElem?_cons_succ];refine .und hu ?_;dsimp only;split
 ·refine .bnd (JU _) fun size=>.und hI ?_;simp only [if_true,Bool.not_true,Bool.false_eq_true,if_false,true_or,pure_bind]
  repeat' first
   | exact .pure _
   | exact YS _
   | exact QDj _
   | exact Qbp _
   | exact Qcj _
   | exact Qez _
   | exact Qki _
   | exact Qdm _ _ _
   | exact Qfd _
   | exact Qfa _ _
   | exact Qfb _ _ _
   | refine Qbb ?_ ?_
   | refine .bnd ?_ fun _=>?_
   | split
 ·exact YS _
theorem QTi {w:World} (t u ty e:TypeId) (i:TypeInfo) (z:Value) {k:IntKind} (ht:P.underlying t=some (.slice e)) (hu:P.underlying u=some (.int k)) (hi:P.info? e=some i) (hz:i.zero=some z) (n:Nat) (h0:0 < n) (hn:n<=1048576) (hs:0 < i.size) (h48:n * i.bytes<=281474976710656) :
  (Builtin.append_ #[t,u] ty #[.slice none 0 0,.int .i64 (n:Int)]).run P w =
   .ok (.slice (some ⟨w.heap.size,0,none⟩) n (grownCap w n 0 e)) (w.drew.alloc (.cells (Builtin.zeroCells z.cells n++Builtin.zeroCells z.cells (grownCap w n 0 e - n)) e)):=by
 have hn0:n≠0:=by omega
 have hs0:i.size≠0:=by omega
 have hw:IntKind.i64.wrap (n:Int)=(n:Int):=Go.IntWalk.i64_in _ (by omega);have hns:¬ n * i.size=0:=by
  have:=Nat.mul_pos h0 hs;omega
 have h63':¬ (9223372036854775807 < (n:Int)):=by omega
 have hneg:¬ ((n:Int) < 0):=by omega
 have h48i:¬ ((281474976710656:Int) < (n:Int) * (i.bytes:Int)):=by
  omega
 have h48':¬ (281474976710656 < Builtin.nextslicecap n 0 * i.bytes):=by rw [nextslicecap_zero h0];omega
 simp [Builtin.append_,run_underlying ht,run_underlying hu,sizeOf,typeInfo,zeroValue,hi,hz,asInt,asIntOf,hn0,hs0,hw,h63',hneg,h48i,h48',Question.forced,run_firstCells_none,newRow,grownCap];omega
end
end Go.Gw

end
section
set_option linter.unusedSectionVars false
namespace Go.Gw
open Go
def Qke (s:ByteArray) (lo hi:Int):Option ByteArray:=if 0<=lo/\lo<=hi/\hi<=(s.size:Int) then some (s.extract lo.toNat hi.toNat) else none
theorem QUv {s t:ByteArray} {lo hi:Int} (h:Qke s lo hi=some t):0<=lo/\lo<=hi/\hi<=(s.size:Int)/\t=s.extract lo.toNat hi.toNat:=by
 grind [Qke]
def JX (xs:List U8):List Int:=xs
def ZO (xs:List U8):ByteArray:=(JX xs).foldl (fun r n=>r.push (UInt8.ofNat n.toNat)) ByteArray.empty
theorem Qxz:∀ (l:List Int) (r:ByteArray),l.foldl (fun r n=>r.push (UInt8.ofNat n.toNat)) r=⟨r.data++(l.map fun n=>UInt8.ofNat n.toNat).toArray⟩
 | [],r=>by simp
 | b::l,r=>by
  simp only [List.map_cons,List.foldl_cons];rw [Qxz l];simp [ByteArray.push]
theorem QBd (xs:List U8):ZO xs=⟨((JX xs).map fun n=>UInt8.ofNat n.toNat).toArray⟩:=by
 simp_all [Qxz,ZO]
theorem Qnn (s:ByteArray):ZO (bl s)=s:=by
 rw [QBd];show (⟨((s.data.toList.map fun b=>((b.toNat:Nat):Int)).map fun n:Int=>UInt8.ofNat n.toNat).toArray⟩:ByteArray)=s;rw [Et];have:((fun n:Int=>UInt8.ofNat n.toNat) ∘ fun b:UInt8=>((b.toNat:Nat):Int))=id:=by
  funext b;simp
 simp_all
theorem Qlf (a b:ByteArray):bl (a++b)=bl a++bl b:=by
 show Ex (fun b:UInt8=>((b.toNat:Nat):Int)) (a++b).data.toList=Ex (fun b:UInt8=>((b.toNat:Nat):Int)) a.data.toList++Ex (fun b:UInt8=>((b.toNat:Nat):Int)) b.data.toList;simp
section
variable {P:Program} [JD P] {n:Nat} {ρ:Env} {w:World}
variable {d:Option Nat} {t T U:TypeId} {p:String} {af:Array Edge} {gu:Option (Nat×Bool)} {x y z:Operand}
theorem QEt {s r:ByteArray} {k k':IntKind} {lo hi:Int} (hu:P.underlying T=some .string) (h:Qke s lo hi=some r) (hx:Qo n ρ x=.string s) (hl:Qo n ρ y=.int k lo) (hh:Qo n ρ z=.int k' hi) :
  Yl P n ρ ⟨d,.slice T x (some y) (some z) none,t,p,af,gu⟩ w (.string r):=by
 obtain ⟨h0,h1,h2,rfl⟩:=QUv h;refine Zl (Yn (Qdn _ _ _ _ _)) fun w1 _=>?_;have e1:=Qgt (P:=P) (w:=w1) (k:=k') (i:=hi) (y:=s.size) (c:=.sliceAlen) (by omega) (by omega);have e2:=Qgt (P:=P) (w:=w1) (k:=k) (i:=lo) (y:=hi.toNat) (c:=.sliceB) h0 (by omega);simp_all [execOp,Instr.sliceAt,Instr.slice,run_underlying,Instr.sliceBounds]
theorem Qxm {L:List Value} {cs:List Value} {xs:List U8} (h:Elems L w cs xs):cs=(JX xs).map (Value.int .u8):=by
 obtain ⟨h1,h2⟩:=h;have h1:cs.length=xs.length * 1:=h1;rw [Eh] at h1;apply List.ext_getElem?;intro i;rcases Er i xs.length with hi | hi
 ·have hx:xs[i]?=some xs[i]:=List.getElem?_eq_getElem hi;have h3:(cs.drop (i * 1)).take 1=[.int .u8 xs[i]]:=h2 i _ hx;have h4:((cs.drop (i * 1)).take 1)[0]?=some (.int .u8 xs[i]):=by rw [h3];rfl
  rw [Eh,Eb (by omega),List.getElem?_drop,Ev] at h4;rw [h4];rw [El];have hx':(JX xs)[i]?=some (xs[i]:Int):=hx
  grind
 ·rw [Ei (by omega),Ei (by rw [List.length_map];exact hi)]
omit [JD P] in
theorem QTk {L:List Value} {v:Value} {xs:List U8} (h:SlRd L w v xs):(Conv.bytesToString v).run P w=.ok (.string (ZO xs)) w:=by
  rcases h with ⟨a0,rfl,rfl⟩ | ⟨b,off,cap,cur,e,fz,rfl,hb,hA,h4,h5,h6,h7⟩
  · cases a0 with
    | none=>rfl
    | some a=>rfl
  · have e1:=Qxm h7;have e2:Rep.n U8=1:=rfl;rw [e2,Eh] at e1;refine run_bytesToString (P:=P) w ⟨b,off,none⟩ xs.length cap (JX xs) ?_;have hl:=run_loadCells_list (P:=P) w ⟨b,off,none⟩ ((JX xs).map (Value.int .u8)) (fun j v hj=>by
      rw [<-e1] at hj;refine (At.of_block hb (cs:=(cur.toList.drop off).take xs.length) (fun j v hv=>?_)).2 j v hj
      grind)
    grind
omit [JD P] in
theorem QVl (v:Value):Tame P (Conv.bytesToString v):=by
 unfold Conv.bytesToString;split
 ·exact .pure _
 ·refine .bnd (Qur _ _) fun cells=>.bnd ?_ fun s=>.pure _;rw [<-Array.forIn_toList];refine QDn _ (fun a b=>?_) _ _;split
  ·exact .pure _
  ·exact YS _
 ·exact YS _
theorem QEn {e:TypeId} {L:List Value} {v:Value} {xs:List U8} (hu:P.underlying T=some (.slice e)) (he:P.underlying e=some (.int .u8)) (hU:P.underlying U=some .string) (hs:SlRd L w v xs) (hx:Qo n ρ x=v) :
  Yl P n ρ ⟨d,.convert T U x,t,p,af,gu⟩ w (.string (ZO xs)):=by
 obtain ⟨a,cap,rfl,_⟩:=hs.shape;refine Zl (Yn (by
  rw [hx];unfold convert;exact .und hu (.und hU (.und he (QVl _))))) fun w1 e1=>?_
 simp [execOp,hx,run_convert_bytes_string w1 T U e a xs.length cap hu he hU,QTk (P:=P) (hs.ext e1)]
end
end Go.Gw
namespace Go.Gw
open Go
section
variable {P:Program} [JD P] {n:Nat} {ρ:Env} {w:World}
variable {d:Option Nat} {t T U:TypeId} {p:String} {af:Array Edge} {gu:Option (Nat×Bool)} {x y z:Operand}
variable {ps rs:Array TypeId} {va:Bool} {f:Fn} {a c:Array Value}
theorem QSv {es:Array Event} (hu:P.underlying T=some (.func ps rs va)):(Op.equal T (.func f a c) .nilFunc).runT P w es=(.ok false w,es):=by
 rw [Op.equal,show Op.maxDepth=9999+1 from rfl,Op.equalIn];exact (Xg (ZD hu)).trans rfl
theorem QSw {es:Array Event} (hu:P.underlying T=some (.func ps rs va)):(Op.equal T .nilFunc .nilFunc).runT P w es=(.ok true w,es):=by
 rw [Op.equal,show Op.maxDepth=9999+1 from rfl,Op.equalIn];exact (Xg (ZD hu)).trans rfl
theorem QEq (hu:P.underlying T=some (.func ps rs va)) (hx:Qo n ρ x=.func f a c) (hy:Qo n ρ y=.nilFunc):Yl P n ρ ⟨d,.binOp .neq T x y U,t,p,af,gu⟩ w (.bool true):=Yc fun w es=>by
 simp only [execOp,hx,hy,eqGuard,binOp];refine (Xg (Xg (QSv hu))).trans rfl
theorem QYb (hu:P.underlying T=some (.func ps rs va)) (hx:Qo n ρ x=.nilFunc) (hy:Qo n ρ y=.nilFunc):Yl P n ρ ⟨d,.binOp .neq T x y U,t,p,af,gu⟩ w (.bool false):=Yc fun w es=>by
 simp only [execOp,hx,hy,eqGuard,binOp];refine (Xg (Xg (QSw hu))).trans rfl
end
end Go.Gw

end
section
set_option linter.unusedSectionVars false
set_option linter.unusedVariables false
namespace Go.Gw
open Go
structure Opq where mk ::
 deriving DecidableEq,Inhabited
section
variable {L L':List Value} {w w':World} {v:Value} {o:Opq}
end
end Go.Gw

end
section
set_option linter.unusedSectionVars false
set_option linter.unusedVariables false
namespace Go.Gw
open Go
section
variable {P:Program} [JD P] {n:Nat} {ρ:Env} {w:World}
variable {d:Option Nat} {t T U:TypeId} {p:String} {af:Array Edge} {gu:Option (Nat×Bool)} {x y z:Operand}
theorem QSx {es:Array Event} {e:TypeId} {o:Option Addr} (hu:P.underlying T=some (.pointer e)):(Op.equal T (.pointer o) (.pointer none)).runT P w es=(.ok o.isNone w,es):=by
 rw [Op.equal,show Op.maxDepth=9999+1 from rfl,Op.equalIn];cases o<;>exact (Xg (ZD hu)).trans rfl
theorem PtRd.shape {α:Type} [Rep α] {L:List Value} {w2:World} {v:Value} {o:Option α} (h:PtRd L w2 v o):∃ a,v=.pointer a/\a.isNone=o.isNone:=by
 cases o with
 | none=>exact ⟨none,h,rfl⟩
 | some r=>obtain ⟨b,h1,_⟩:=h;exact ⟨_,h1,rfl⟩
theorem QYc {α:Type} [Rep α] {e:TypeId} {L:List Value} {w2:World} {v:Value} {o:Option α} (hu:P.underlying T=some (.pointer e)) (hs:PtRd L w2 v o) (hx:Qo n ρ x=v) (hy:Qo n ρ y=.pointer none) :
  Yl P n ρ ⟨d,.binOp .neq T x y U,t,p,af,gu⟩ w (.bool (!o.isNone)):=by
 obtain ⟨a,rfl,h⟩:=hs.shape;rw [<-h];refine Yc fun w es=>?_;simp only [execOp,hx,hy,eqGuard,binOp];refine (Xg (Xg (QSx hu))).trans rfl
end
end Go.Gw

end
