/- Laws of the walk. Condition: each theorem says its own. -/
import Derived.Test.YtbigilldfhjedaaGreatDoorGwCore
import Derived.KernelRfl
import Derived.Laws.OwnMore
import Derived.Laws.CopyRow
import Derived.Laws.ByValue
import Derived.WalkSpells
set_option linter.unusedVariables false
set_option linter.unusedSimpArgs false
set_option linter.unusedSectionVars false
open Nat renaming mul_le_mul_right→Ea,ble→Eb,mul_one→Ei,mul_le_mul→Ek,succ_mul→En,le_trans→Er,zero_mul→Es,lt_or_ge→Et,zero_le→Eu
open List renaming replicate→Ec,mem_singleton→Ee,getElem?_eq_some_iff→Ef,getElem?_take_of_lt→Eg,replicate_succ→Eh,drop_eq_getElem_cons→Ej,mem_cons_of_mem→El,extract_eq_take_drop→Em,getElem?_eq_none→Ep
open Option renaming map_eq_some_iff→Ed,map_some→Eo
section
set_option linter.unusedSectionVars false
namespace Go.Gw
open Go

abbrev w64 (x:Int):Int:=IntKind.wrap .i64 x

theorem Ye {α:Type} {b:Bool} {x y z:α} (hb:b=true) (h:cond b x y=z):x=z:=by simp_all
theorem JY {α:Type} {b:Bool} {x y z:α} (hb:b=false) (h:cond b x y=z):y=z:=by simp_all
theorem XZ {α β:Type} {e:Option α} {f:α->Option β} {r:β} (h:e.bind f=some r):∃ x,e=some x/\f x=some r:=by
 cases e with
 | none=>cases h
 | some x=>simp_all

noncomputable def loop {σ β:Type} (step:σ->Option (σ⊕β)) (s:σ):Option β :=
 match YF step 300 s with
 | some o=>some o
 | none=>open Classical in if h:∃ o,∃ k,YF step k s=some o then some (Classical.choose h) else none

theorem Qro {σ β:Type} {step:σ->Option (σ⊕β)}:∀ {k k':Nat} {s:σ} {o o':β},YF step k s=some o->YF step k' s=some o'->o=o'
 | 0,_,_,_,_,h,_=>by cases h
 | _+1,0,_,_,_,_,h=>by cases h
 | k+1,k'+1,s,o,o',h,h'=>by
  simp only [YF] at h h';cases hs:step s with
  | none=>simp [hs] at h
  | some x =>
   cases x with
   | inl s'=>simp only [hs] at h h';exact Qro h h'
   | inr b=>simp only [hs] at h h';cases h;cases h';rfl

theorem loop_iff {σ β:Type} {step:σ->Option (σ⊕β)} {s:σ} {o:β}:loop step s=some o↔∃ k,YF step k s=some o:=by
 classical
 unfold loop;cases h3:YF step 300 s with
 | some o'=>exact ⟨fun h=>⟨300,h3.trans h⟩,fun ⟨k,hk⟩=>congrArg some (Qro h3 hk)⟩
 | none =>
  constructor
  ·intro h;simp only at h;split at h
   ·grind
   ·cases h
  ·rintro ⟨k,hk⟩;have hh:∃ o,∃ k,YF step k s=some o:=⟨o,k,hk⟩;simp only;rw [dif_pos hh]
   grind [Qro,Classical.choose_spec]

theorem Qce {σ β:Type} {step:σ->Option (σ⊕β)} {s s':σ} (h:step s=some (.inl s')):loop step s=loop step s':=by
 apply Option.ext;intro o;rw [loop_iff,loop_iff];constructor
 ·rintro ⟨k,hk⟩;cases k with
  | zero=>cases hk
  | succ k=>grind [YF]
 ·rintro ⟨k,hk⟩;exact ⟨k+1,by grind [YF]⟩
theorem Qcf {σ β:Type} {step:σ->Option (σ⊕β)} {s:σ} {o:β} (h:step s=some (.inr o)):loop step s=some o:=by
 rw [loop_iff];exact ⟨1,by simp only [YF,h]⟩

section
variable {P:Program} [JD P] {n:Nat} {q:Post} {ρ:Env} {w:World}

theorem QFx {c:Code} {σ β:Type} {step:σ->Option (σ⊕β)} {s:σ} {o:β} (I:σ->Env->World->Prop) (h:loop step s=some o) (h0:I s ρ w)
  (round:∀ s ρ w,I s ρ w->∀ x,step s=some x->(∀ y,x=.inr y->y=o)->WC P n c ⟨fun ρ w=>∃ s',x=.inl s'/\I s' ρ w,q.ex,q.ret⟩ ρ w):WC P n (.loop c) q ρ w:=by
 obtain ⟨k,hk⟩:=loop_iff.1 h;refine Qwm (step:=step) (k:=k) (s:=s) (o:=o) I hk h0 fun s ρ w hI=>⟨fun s' hs=>?_,fun hs=>?_⟩
 ·exact (round s ρ w hI _ hs (fun y hy=>by cases hy)).mono (fun ρ w ⟨s'',he,hI'⟩=>by simp_all) (fun _ _ _ h=>h) (fun _ _ h=>h)
 grind

theorem Qbt {ops:Array Oper} {K:Env->World->Prop} {o:Oper} {os:List Oper} (b:Bool) (V:Value) (hw:XL ops o n ρ=b) (ht:b=true->Eff P o n ρ w (fun v w'=>v=V/\Ext w w'))
    (h:∀ w',Ext w w'->T0 P n ops K os (Xn ρ o.dst (gd b V)) w'):T0 P n ops K (o::os) ρ w :=
  Qwi b hw (fun hb=>(ht hb).mono fun v w' ⟨hv,he⟩=>by grind [Qo])
    (fun hb=>by grind [Qht,Chg.refl])
section ev
variable {x1 x2 x3 x4 x5 x6 x7 x8:Operand} {v1 v2 v3 v4 v5 v6 v7 v8:Value}
theorem ev0:((#[]:Array Operand).map (Qm n ρ)).toList=[]:=by simp
theorem QH (h1:Qm n ρ x1=v1):(#[x1].map (Qm n ρ)).toList=[v1]:=by grind
theorem QZ (h1:Qm n ρ x1=v1) (h2:Qm n ρ x2=v2):(#[x1,x2].map (Qm n ρ)).toList=[v1,v2]:=by simp_all
theorem Zv (h1:Qm n ρ x1=v1) (h2:Qm n ρ x2=v2) (h3:Qm n ρ x3=v3):(#[x1,x2,x3].map (Qm n ρ)).toList=[v1,v2,v3]:=by simp_all
theorem J8 (h1:Qm n ρ x1=v1) (h2:Qm n ρ x2=v2) (h3:Qm n ρ x3=v3) (h4:Qm n ρ x4=v4):(#[x1,x2,x3,x4].map (Qm n ρ)).toList=[v1,v2,v3,v4]:=by simp_all
end ev

variable {d:Option Nat} {t T U:TypeId} {p:String} {af:Array Edge} {gu:Option (Nat×Bool)} {x y z:Operand}
theorem ZB {fs:Array Field} {i:Nat} {f:Field} {a:Addr} {v:Value} (off:Nat) (hu:P.underlying T=some (.struct fs)) (hf:fs[i]?=some f) (ho:f.offset=off) (hs:∃ k,Xi P f.type (k+1)) (hx:Qm n ρ x=.pointer (some a))
  (hv:v=.pointer (some (a.add off))):Yl P n ρ ⟨d,.fieldAddr T x i,t,p,af,gu⟩ w v:=by
 grind [Q0d]

theorem Qck {a:Addr} {cs:List Value} (hT:Aggr P T cs.length) (hat:At w a cs):∀ w1,Rel w w1->(loadVar T a).run P w1=.ok (.agg cs.toArray) w1:=fun w1 r=>by
 simp [loadVar,Que hT,YW hT.size,run_loadCells_list w1 a cs (At.ext r.ext hat).2]
def LtL (L:List Value) (w:World):Prop:=∀ h∈L,∀ b,Qu h=some b->b < w.heap.size
theorem LtL.chg {L H:List Value} {w w':World} (h:LtL L w) (c:Chg H w w'):LtL L w':=fun x hx b hb=>Nat.lt_of_lt_of_le (h x hx b hb) c.size
theorem LtL.nil (w:World):LtL [] w:=fun _ h=>by cases h
theorem LtL.cons {L:List Value} {w:World} {v:Value} (h:LtL L w) (hv:∀ b,Qu v=some b->b < w.heap.size):LtL (v::L) w:=fun x hx b hb=>by
 rcases List.mem_cons.1 hx with rfl | hx
 ·grind
 ·exact h x hx b hb

theorem Own.sub {α:Type} [Rep α] {e:TypeId} {L L':List Value} {v:Value} {xs:List α} (h:Own e L w v xs) (hs:∀ x∈L',x∈L):Own e L' w v xs:=h.step (Stepp.sub w hs) (Chg.refl [] w) (fun _ _=>Avoids.nil _)
theorem SlRd.sub {α:Type} [Rep α] {L L':List Value} {v:Value} {xs:List α} (h:SlRd L w v xs) (hs:∀ x∈L',x∈L):SlRd L' w v xs:=h.step (Stepp.sub w hs)
theorem Own.rdL {α:Type} [Rep α] {e:TypeId} {L L0:List Value} {w0:World} {v:Value} {xs:List α} (h:Own e L w v xs) (hs:∀ x∈L0,x∈L) (hL:LtL L0 w0) (hf:∀ b,Qu v=some b->w0.heap.size<=b):SlRd L0 w v xs :=
 (h.sub hs).rd (fun b hb x hx e=>by have:=hL x hx b e;grind)
theorem Xm {v:Value} {b:Nat} (h:Qu v≠some b):Avoids [v] b:=fun x hx e=>by simp_all
theorem QA {b b':Nat} (h:b'≠b):Avoids [.pointer (some ⟨b',0,none⟩)] b:=fun x hx e=>by grind [Qu,Ee]
end
end Go.Gw
namespace Go.Gw
section
variable {P:Program} [JD P] {n:Nat} {q:Post} {ρ:Env} {w:World}
theorem Xt {c:Code} {σ β:Type} {step:σ->Option (σ⊕β)} {s:σ} {o:β} (I:σ->Env->World->Prop) (h:loop step s=some o) (h0:I s ρ w)
  (round:∀ s ρ w,I s ρ w->∀ x,step s=some x->(∀ y,x=.inr y->y=o)->∀ K:Env->World->Prop,(∀ s' ρ w,x=.inl s'->I s' ρ w->K ρ w)->WC P n c ⟨K,q.ex,q.ret⟩ ρ w):WC P n (.loop c) q ρ w :=
 QFx I h h0 fun s ρ w hI x hx ho=>round s ρ w hI x hx ho _ fun s' _ _ he hI'=>⟨s',he,hI'⟩
theorem XB {α:Type} {a:α} {L L':List α} (h:a∈L') (hs:∀ x∈L,x∈L'):∀ x∈a::L,x∈L':=fun x hx=>by
 grind
theorem Xy {α:Type} (L:List α):∀ x∈L,x∈L:=fun _ h=>h
theorem QV {α:Type} {a:α} {L L':List α} (hs:∀ x∈L,x∈L'):∀ x∈L,x∈a::L':=fun x hx=>El _ (hs x hx)
theorem Qp {α:Type} {a:α} {L:List α}:a∈a::L:=List.mem_cons_self ..
theorem Q2 {α:Type} {a b:α} {L:List α} (h:a∈L):a∈b::L:=El _ h
theorem Xa {α:Type} {x0 x1:α} {L:List α}:x1∈x0::x1::L:=Q2 Qp
theorem Zx {α:Type} {x0 x1 x2:α} {L:List α}:x2∈x0::x1::x2::L:=Q2 (Q2 Qp)
theorem Zy {α:Type} {x0 x1 x2 x3:α} {L:List α}:x3∈x0::x1::x2::x3::L:=Q2 (Q2 (Q2 Qp))
theorem JN {α:Type} {x0 x1 x2:α} {L:List α}:∀ x∈L,x∈x0::x1::x2::L:=QV (QV (QV (Xy _)))
theorem Qej {α:Type} {x0 x1 x2 x3:α} {L:List α}:∀ x∈L,x∈x0::x1::x2::x3::L:=QV (QV (QV (QV (Xy _))))
theorem QDt {α:Type} {x0 x1 x2 x3 x4:α} {L:List α}:∀ x∈x0::x1::x3::x4::L,x∈x0::x1::x2::x3::x4::L:=XB Qp (XB (Q2 Qp) (XB (Q2 (Q2 (Q2 Qp))) (XB (Q2 (Q2 (Q2 (Q2 Qp)))) (QV (QV (QV (QV (QV (Xy _)))))))))
theorem JM {α:Type} {x0 x1 x2:α} {L:List α}:∀ x∈x0::x2::L,x∈x0::x1::x2::L:=XB Qp (XB (Q2 (Q2 Qp)) (QV (QV (QV (Xy _)))))
theorem Qaw {α:Type} {x0 x1 x2 x3:α} {L:List α}:∀ x∈x0::x2::x3::L,x∈x0::x1::x2::x3::L:=XB Qp (XB (Q2 (Q2 Qp)) (XB (Q2 (Q2 (Q2 Qp))) (QV (QV (QV (QV (Xy _)))))))
theorem QDu {α:Type} {x0 x1 x2 x3 x4:α} {L:List α}:∀ x∈x0::x2::x3::x4::L,x∈x0::x1::x2::x3::x4::L:=XB Qp (XB (Q2 (Q2 Qp)) (XB (Q2 (Q2 (Q2 Qp))) (XB (Q2 (Q2 (Q2 (Q2 Qp)))) (QV (QV (QV (QV (QV (Xy _)))))))))
theorem Qjv {α:Type} {x0:α} {L:List α}:∀ x∈x0::L,x∈x0::L:=XB Qp (QV (Xy _))
theorem Qgj {α:Type} {x0 x1:α} {L:List α}:∀ x∈x0::L,x∈x0::x1::L:=XB Qp (QV (QV (Xy _)))
theorem Q7 {α:Type} {x0 x1:α} {L:List α}:∀ x∈x1::x0::L,x∈x0::x1::L:=XB (Q2 Qp) (XB Qp (QV (QV (Xy _))))
theorem X9 {α:Type} {x0 x1 x2:α} {L:List α}:∀ x∈x1::x0::x2::L,x∈x0::x1::x2::L:=XB (Q2 Qp) (XB Qp (XB (Q2 (Q2 Qp)) (QV (QV (QV (Xy _))))))
theorem Jg {α:Type} {x0 x1 x2 x3:α} {L:List α}:∀ x∈x1::x0::x2::x3::L,x∈x0::x1::x2::x3::L:=XB (Q2 Qp) (XB Qp (XB (Q2 (Q2 Qp)) (XB (Q2 (Q2 (Q2 Qp))) (QV (QV (QV (QV (Xy _))))))))
theorem Qvb {α:Type} {x0 x1 x2 x3 x4:α} {L:List α}:∀ x∈x1::x0::x2::x3::x4::L,x∈x0::x1::x2::x3::x4::L:=XB (Q2 Qp) (XB Qp (XB (Q2 (Q2 Qp)) (XB (Q2 (Q2 (Q2 Qp))) (XB (Q2 (Q2 (Q2 (Q2 Qp)))) (QV (QV (QV (QV (QV (Xy _))))))))))
theorem XD {α:Type} {x0 x1 x2:α} {L:List α}:∀ x∈x1::x2::L,x∈x0::x1::x2::L:=XB (Q2 Qp) (XB (Q2 (Q2 Qp)) (QV (QV (QV (Xy _)))))
theorem Qvc {α:Type} {x0 x1 x2 x3:α} {L:List α}:∀ x∈x1::x2::L,x∈x0::x1::x2::x3::L:=XB (Q2 Qp) (XB (Q2 (Q2 Qp)) (QV (QV (QV (QV (Xy _))))))
theorem Qjw {α:Type} {x0 x1 x2 x3:α} {L:List α}:∀ x∈x1::x2::x3::L,x∈x0::x1::x2::x3::L:=XB (Q2 Qp) (XB (Q2 (Q2 Qp)) (XB (Q2 (Q2 (Q2 Qp))) (QV (QV (QV (QV (Xy _)))))))
theorem QDv {α:Type} {x0 x1 x2 x3 x4:α} {L:List α}:∀ x∈x1::x2::x3::x4::L,x∈x0::x1::x2::x3::x4::L:=XB (Q2 Qp) (XB (Q2 (Q2 Qp)) (XB (Q2 (Q2 (Q2 Qp))) (XB (Q2 (Q2 (Q2 (Q2 Qp)))) (QV (QV (QV (QV (QV (Xy _)))))))))
theorem ZL {α:Type} {x0 x1:α} {L:List α}:∀ x∈x1::L,x∈x0::x1::L:=XB (Q2 Qp) (QV (QV (Xy _)))
theorem Qvd {α:Type} {x0 x1 x2:α} {L:List α}:∀ x∈x2::x0::x1::L,x∈x0::x1::x2::L:=XB (Q2 (Q2 Qp)) (XB Qp (XB (Q2 Qp) (QV (QV (QV (Xy _))))))
theorem Qos {α:Type} {x0 x1 x2 x3 x4:α} {L:List α}:∀ x∈x2::x0::x1::x3::x4::L,x∈x0::x1::x2::x3::x4::L:=XB (Q2 (Q2 Qp)) (XB Qp (XB (Q2 Qp) (XB (Q2 (Q2 (Q2 Qp))) (XB (Q2 (Q2 (Q2 (Q2 Qp)))) (QV (QV (QV (QV (QV (Xy _))))))))))
theorem Qve {α:Type} {x0 x1 x2 x3 x4:α} {L:List α}:∀ x∈x2::x0::x3::x4::L,x∈x0::x1::x2::x3::x4::L:=XB (Q2 (Q2 Qp)) (XB Qp (XB (Q2 (Q2 (Q2 Qp))) (XB (Q2 (Q2 (Q2 (Q2 Qp)))) (QV (QV (QV (QV (QV (Xy _)))))))))
theorem Qae {α:Type} {x0 x1 x2 x3 x4 x5:α} {L:List α}:∀ x∈x4::x5::x0::L,x∈x0::x1::x2::x3::x4::x5::L:=XB (Q2 (Q2 (Q2 (Q2 Qp)))) (XB (Q2 (Q2 (Q2 (Q2 (Q2 Qp))))) (XB Qp (QV (QV (QV (QV (QV (QV (Xy _)))))))))
theorem QI {α:Type} {L:List α}:∀ x∈([]:List α),x∈L:=fun _ h=>by cases h
end
end Go.Gw
namespace Go.Gw
def Xv {β μ:Type} (o:β⊕μ) (f:μ->Option β):Option β:=match o with | .inl b=>some b | .inr m=>f m
theorem XG {β μ:Type} {a:β} {f:μ->Option β} {x:β} (h:Xv (.inl a) f=some x):some a=some x:=h
theorem XW {β μ:Type} {a:μ} {f:μ->Option β} {x:β} (h:Xv (.inr a) f=some x):f a=some x:=h
section
variable {α:Type} [Rep α] {w w':World}
theorem Zp {e:TypeId} {L:List Value} {v:Value} {xs:List α} {b:Nat} (h:Own e L w v xs) (hb:w.heap.size<=b):Qu v≠some b:=fun e=>by have:=h.blk_lt e;omega
theorem XQ {v v':Value} {b:Nat} {cs:List Value} {T:TypeId} (hbl:∀ b,Qu v'=some b->Qu v=some b\/w.heap.size<=b) (h:Qu v≠some b) (hB:Box w b cs T):Qu v'≠some b:=fun e=>by
 rcases hbl b e with h1 | h1
 ·exact h h1
 ·have:=hB.lt;omega
theorem Qxz {e:TypeId} {L:List Value} {u v v':Value} {xs:List α} (hbl:∀ b,Qu v'=some b->Qu v=some b\/w.heap.size<=b) (h:∀ b,Qu u=some b->Qu v≠some b) (hu:Own e L w u xs):∀ b,Qu u=some b->Qu v'≠some b:=fun b hb e=>by
 rcases hbl b e with h1 | h1
 ·grind
 ·have:=hu.blk_lt hb;omega
theorem XX {v v':Value} {w0:World} (hbl:∀ b,Qu v'=some b->Qu v=some b\/w.heap.size<=b) (h:∀ b,Qu v=some b->w0.heap.size<=b) (hs:w0.heap.size<=w.heap.size):∀ b,Qu v'=some b->w0.heap.size<=b:=fun b hb=>by
 grind
theorem ZU (b:Nat) {p:Prop} (h:Qu (.slice none 0 0)=some b):p:=by cases h
theorem Qxd {v:Value} {u:Value} (h:∀ b,Qu u=some b->Qu v≠some b):∀ b,Qu u=some b->Avoids [v] b:=fun b hb=>Xm (h b hb)
theorem Xu {v:Value} {b:Nat} (h:Qu v≠some b):∀ k,Qu v=some k->Avoids [.pointer (some ⟨b,0,none⟩)] k:=fun k hk=>QA (fun e=>h (by simp_all))
theorem XS {v:Value} {w0:World} (h:Ext w0 w) (c:Chg [v] w w') (hf:∀ b,Qu v=some b->w0.heap.size<=b):Ext w0 w':=Chg.fresh h c (fun x hx n e=>by simp_all)
theorem QG {b:Nat} {w0:World} (h:Ext w0 w) (c:Chg [.pointer (some ⟨b,0,none⟩)] w w') (hf:w0.heap.size<=b):Ext w0 w':=Chg.fresh h c (fun x hx n e=>by grind [Qu,Ee])
end
end Go.Gw
namespace Go.Gw
def app {α:Type} (xs ys:List α):Option (List α):=if xs.length+ys.length<=1073741824 then some (xs++ys) else none
theorem Qwx {α:Type} {xs ys zs:List α} (h:app xs ys=some zs):xs.length+ys.length<=1073741824/\zs=xs++ys:=by
 grind [app]
def quo (a b:Int):Option Int:=if b=0 then none else some (w64 (a.tdiv b))
def rem (a b:Int):Option Int:=if b=0 then none else some (a.tmod b)
theorem QTo {a b c:Int} (h:quo a b=some c):b≠0/\c=w64 (a.tdiv b):=by
 grind [quo]
theorem QUb {a b c:Int} (h:rem a b=some c):b≠0/\c=a.tmod b:=by
 grind [rem]

section
variable {P:Program} [JD P] {n:Nat} {ρ:Env} {w:World}
variable {d:Option Nat} {t T U:TypeId} {p:String} {af:Array Edge} {gu:Option (Nat×Bool)} {x y z:Operand}
theorem Q0o {a b c:Int} (h:quo a b=some c) (hx:Qm n ρ x=.int .i64 a) (hy:Qm n ρ y=.int .i64 b):Yl P n ρ ⟨d,.binOp .quo T x y U,t,p,af,gu⟩ w (.int .i64 c):=by
 obtain ⟨hb,rfl⟩:=QTo h;exact Q0n hb hx hy
theorem Q0p {a b c:Int} (h:rem a b=some c) (hx:Qm n ρ x=.int .i64 a) (hy:Qm n ρ y=.int .i64 b):Yl P n ρ ⟨d,.binOp .rem T x y U,t,p,af,gu⟩ w (.int .i64 c):=by
 obtain ⟨hb,rfl⟩:=QUb h;exact Qwh hb hx hy

theorem QIe {α:Type} [Rep α] {e:TypeId} {bytes:Nat} {z:Value} {L:List Value} {len:Nat} {xs:List α} {cells:List Value} {parts:Array (Nat×Operand)} {K:Value->World->Prop}
  (hu:P.underlying T=some (.slice e)) (hi:EInfo P e (Rep.n α) bytes z) (hsmall:Eb (len * Rep.n α) 16777216=true)
  (hf:J9 (fun i=>some (i * Rep.n α,Rep.n α)) (Qdm z.cells.toList (len * Rep.n α)) (parts.toList.map fun q=>(q.1,Qm n ρ q.2))=some cells)
  (hel:Elems L w cells xs) (hl:xs.length=len) (hlt:LtL L w)
  (h:∀ b w',Ext w w'->SlRd L w' (.slice (some ⟨b,0,none⟩) len len) xs->K (.slice (some ⟨b,0,none⟩) len len) w'):Eff P ⟨d,.buildSlice T len parts,t,p,af,gu⟩ n ρ w K :=
 Qqs hu hi hsmall hf hel hl fun b w' hb he ho _=>h b w' he (ho.rd fun k hk x hx e=>by
  have:=hlt x hx k e
  grind [Qu])

theorem QId {α:Type} [Rep α] {e:TypeId} {bytes:Nat} {z:Value} {L:List Value} {len:Nat} {xs:List α} {cells:List Value} {parts:Array (Nat×Operand)} {K:Value->World->Prop}
  (hu:P.underlying T=some (.slice e)) (hi:EInfo P e (Rep.n α) bytes z) (hsmall:Eb (len * Rep.n α) 16777216=true)
  (hf:J9 (fun i=>some (i * Rep.n α,Rep.n α)) (Qdm z.cells.toList (len * Rep.n α)) (parts.toList.map fun q=>(q.1,Qm n ρ q.2))=some cells)
  (hel:Elems L w cells xs) (hl:xs.length=len)
  (h:∀ v w',Ext w w'->(∀ b,Qu v=some b->w.heap.size<=b)->Own e (v::L) w' v xs->K v w'):Eff P ⟨d,.buildSlice T len parts,t,p,af,gu⟩ n ρ w K :=
 Qqs hu hi hsmall hf hel hl fun _ w' hb he _ ho=>h _ w' he (fun k hk=>by grind [Qu]) ho

theorem JE {α:Type} [Rep α] {e:TypeId} {bytes:Nat} {zz:Value} {L:List Value} {v vx:Value} {xs ys zs:List α} {K:Value->World->Prop} {aT:Array TypeId}
  (hu:P.underlying T=some (.slice e)) (hi:EInfo P e (Rep.n α) bytes zz) (hbm:Eb bytes 65536=true) (hT:aT=#[T,T]) (hx:Qm n ρ x=v) (hy:Qm n ρ y=vx) (hown:Own e (v::L) w v xs) (hs:SlRd (v::L) w vx ys)
  (hz:app xs ys=some zs)
  (h:∀ v' w',Chg [v] w w'->(∀ b,Qu v'=some b->Qu v=some b\/w.heap.size<=b)->Own e (v'::L) w' v' zs->K v' w'):Eff P ⟨d,.call ⟨.builtin .append,#[x,y],aT⟩,t,p,af,gu⟩ n ρ w K:=by
 obtain ⟨hb,rfl⟩:=Qwx hz;have hbm:bytes<=65536:=by simpa using hbm
 have:(xs.length+ys.length) * bytes<=1073741824 * 65536:=Ek hb hbm
 grind [QIb,maxLen]
end
end Go.Gw
namespace Go.Gw
section
variable {P:Program} [JD P] {n:Nat} {ρ:Env} {w:World}
variable {d:Option Nat} {t T U:TypeId} {p:String} {af:Array Edge} {gu:Option (Nat×Bool)} {x y z:Operand}
theorem Qal {a b:Bool} (ha:a=true) (hb:b=true):(a&&b)=true:=by simp_all
theorem X8 {b:Bool} (h:b=false):(!b)=true:=by subst h;rfl
theorem QR {α:Type} [Rep α] {e:TypeId} {L:List Value} {w2:World} {v:Value} {xs:List α} {aT:Array TypeId} (hT:aT[0]?=some T) (hu:P.underlying T=some (.slice e)) (hs:SlRd L w2 v xs) (hx:Qm n ρ x=v) :
  Yl P n ρ ⟨d,.call ⟨.builtin .len,#[x],aT⟩,t,p,af,gu⟩ w (.int .i64 xs.length):=by
 obtain ⟨a,c,rfl,_⟩:=hs.shape;exact Qgu hT hu hx
theorem Qgt {α:Type} [Rep α] {e e':TypeId} {L:List Value} {w2:World} {v:Value} {xs:List α} {aT:Array TypeId} (hT:aT[0]?=some T) (hu:P.underlying T=some (.slice e)) (hs:Own e' L w2 v xs) (hx:Qm n ρ x=v) :
  Yl P n ρ ⟨d,.call ⟨.builtin .len,#[x],aT⟩,t,p,af,gu⟩ w (.int .i64 xs.length):=by
 obtain ⟨a,c,rfl,_⟩:=hs.shape;exact Qgu hT hu hx

omit [JD P] in
structure ZI (P:Program) (T:TypeId) (cs:List Value):Prop where
 ex:∃ i z,P.info? T=some i/\i.zero=some z/\z.cells.toList=cs
theorem Q9 {cs:List Value} {K:Value->World->Prop} (hZ:ZI P T cs)
  (h:∀ b w',w.heap.size<=b->Ext w w'->Box w' b cs T->K (.pointer (some ⟨b,0,none⟩)) w'):Eff P ⟨d,.alloc T,t,p,af,gu⟩ n ρ w K:=by
 obtain ⟨i,z,hi,hz,hc⟩:=hZ.ex
 grind [QHz]
theorem XA {v:Value} {cs:List Value} {K:Value->World->Prop} (hx:Qm n ρ x=v) (hc:v.cells.toList=cs)
  (h:∀ b w',w.heap.size<=b->Ext w w'->Box w' b cs T->K (.pointer (some ⟨b,0,none⟩)) w'):Eff P ⟨d,.box T x,t,p,af,gu⟩ n ρ w K :=
 QIc hx fun b w' hb he hB=>h b w' hb he (hc▸hB)
theorem Y2 {v:Value} {b off:Nat} {cs cs' vs:List Value} {T':TypeId} {K:Value->World->Prop} {k:Nat} (hs:Xi P T k) (hv:v.cells.toList=vs) (hk:vs.length=k) (hx:Qm n ρ x=.pointer (some ⟨b,off,none⟩)) (hy:Qm n ρ y=v)
  (hb:Box w b cs T') (hl:Eb (off+k) cs.length=true) (h1:∀ u∈vs,u.oneCell'=true) (hcs:YT cs off vs=cs')
  (h:∀ w',Chg [.pointer (some ⟨b,0,none⟩)] w w'->Box w' b cs' T'->K undef w'):Eff P ⟨d,.store T x y,t,p,af,gu⟩ n ρ w K:=by
 subst hv;subst hk;subst hcs;have e:v.cells.toList.length=v.cells.size:=by simp
 exact QIl (by trivial) hx hy hb (by simp_all) h1 h
theorem QF:∀ u∈([]:List Value),u.oneCell'=true:=fun _ h=>by cases h
theorem Qg {v:Value} {vs:List Value} (h:v.oneCell'=true) (hs:∀ u∈vs,u.oneCell'=true):∀ u∈v::vs,u.oneCell'=true:=fun u hu=>by
 grind
theorem SlRd.one1 {α:Type} [Rep α] {L:List Value} {v:Value} {xs:List α} (h:SlRd L w v xs):v.oneCell'=true:=by obtain ⟨a,c,rfl,_⟩:=h.shape;rfl
theorem Own.one1 {α:Type} [Rep α] {e:TypeId} {L:List Value} {v:Value} {xs:List α} (h:Own e L w v xs):v.oneCell'=true:=by obtain ⟨a,c,rfl,_⟩:=h.shape;rfl
theorem Ql {L:List Value} {w':World} {b:Nat} (he:Ext w w') (hb:w.heap.size<=b):Stepp L w (.pointer (some ⟨b,0,none⟩)::L) w':=Stepp.add _ he (fun k hk=>by grind [Qu])
theorem Jq {L:List Value} (w:World):Stepp L w (.slice none 0 0::L) w:=Stepp.add _ (Chg.refl [] _) (fun _ h=>by cases h)
theorem QQ {b b':Nat} {cs:List Value} {T:TypeId} (h:Box w b' cs T) (hb:w.heap.size<=b):b≠b':=fun e=>by have:=h.lt;omega
theorem Q3 {w0:World} {b:Nat} (h:Ext w0 w) (hb:w.heap.size<=b):w0.heap.size<=b:=Er h.size hb

section
variable {i1 i2 i3 i4 i5 i6 i7 i8 i9:Nat} {x1 x2 x3 x4 x5 x6 x7 x8 x9:Operand} {v1 v2 v3 v4 v5 v6 v7 v8 v9:Value}
end
end
end Go.Gw

end
section
set_option linter.unusedVariables false
namespace Go.Gw
open Go Go.Conc
section
variable {P:Program}
theorem Tame.bindP {α β:Type} {m:Sem α} {f:α->Sem β} (φ:α->Prop) (h:Tame P m) (hφ:∀ w es r w',(m.runT P w es).1=.ok r w'->φ r) (hf:∀ a,φ a->Tame P (f a)):Tame P (m >>= f):=by
  classical
  refine .same _ (m >>= fun a => if φ a then f a else Sem.halt (.stuck "")) (fun w es => ?_) (.bnd h fun a => ?_)
  · rw [show (m >>= f) = m.bind f from rfl, Go.Sem.runT_bind', show (m >>= fun a => if φ a then f a else Sem.halt (.stuck "")) = m.bind _ from rfl, Go.Sem.runT_bind']
    grind
  grind [halt]
def Qdy:Value->Bool
 | .bool _ | .int _ _ | .string _ | .float _ _=>true
 | _=>false
def NP (v:Value):Prop:=Qdy v=true\/∃ cs,v=.agg cs/\∀ c∈cs.toList,Qdy c=true
theorem NP.part {t:TypeId} {cs:Array Value} {off:Nat} (h:∀ c∈cs.toList,Qdy c=true):∀ w es r w',((part t cs off).runT P w es).1=.ok r w'->NP r:=by
 intro w es r w' hr;rw [Sem.runT_fst] at hr;unfold Go.part at hr;simp only [Sem.run_bind] at hr;cases h1:(isAgg t).run P w with
 | halt x w1=>simp_all
 | ok b w1 =>
  simp only [h1,Result.andThen] at hr;cases b with
  | true =>
   simp only [if_true,Sem.run_bind] at hr;cases h2:(sizeOf t).run P w1 with
   | halt x w2=>simp_all
   | ok k w2 =>
    simp only [h2,Result.andThen,Sem.run_pure] at hr;cases hr;refine .inr ⟨_,rfl,fun c hc=>h c ?_⟩
    grind [List.mem_of_mem_drop,List.mem_of_mem_take,Array.toList_extract,Em]
  | false =>
   simp only [Bool.false_eq_true,if_false] at hr;split at hr
   ·rename_i v hv;simp only [Sem.run_pure] at hr;cases hr;exact .inl (h _ (Array.mem_toList_iff.2 (Array.mem_of_getElem? hv)))
   trivial
theorem Qen (t:TypeId) (cs:Array Value) (off:Nat):Tame P (part t cs off):=by
 unfold part;refine .bnd (QEj _) fun b=>Jk (.bnd (Jy _) fun _=>.pure _) ?_;split<;>first | exact .pure _ | exact YK _
theorem Qvl (t:TypeId) (x y:Value):Tame P (Instr.index t x y):=by
 unfold Instr.index;refine .bnd (Qou _) fun _=>.bnd (Qaf _) fun _=>?_;split
 ·exact Jk (.bnd (Jy _) fun _=>Qen _ _ _) (Qov _ _ _ _)
 ·split<;>first | exact .pure _ | exact Qov _ _ _ _
 ·exact YK _
theorem Qvk {α β:Type} (f:α->β->Sem (ForInStep β)) (hf:∀ a b,Tame P (f a b)):∀ (xs:List α) (b:β),Tame P (forIn xs b f)
 | [],b=>by rw [List.forIn_nil];exact .pure _
 | x::xs,b=>by
  rw [List.forIn_cons];refine .bnd (hf x b) fun r=>?_;split
  ·exact .pure _
  ·exact Qvk f hf xs _
theorem Qow:∀ (d:Nat) (t:TypeId) (x y:Value),NP x->Tame P (Op.equalIn d t x y)
  | 0,_,_,_,_=>Qax _
  | d+1,t,x,y,hx=>by
    have ih:∀ (t t':TypeId) (cs ds:Array Value) (o o':Nat),(∀ c∈cs.toList,Qdy c=true)->Tame P (part t cs o >>= fun a=>part t' ds o' >>= fun b=>Op.equalIn d t a b):=fun t t' cs ds o o' hc =>
      .bindP NP (Qen _ _ _) (NP.part hc) fun a ha=>.bnd (Qen _ _ _) fun b=>Qow d _ _ _ ha
    unfold Op.equalIn;refine .bnd (Qaf _) fun D=>?_;rcases hx with h | ⟨cs,rfl,hc⟩
    · split <;> first
        | exact .pure _
        | exact YK _
        | exact Qax _
        | exact Jk (.pure _) (YK _)
        | trivial
    · split
      all_goals first
        | contradiction
        | exact YK _
        | exact Qax _
        | skip
      · rename_i heq;obtain rfl:=Value.agg.inj heq;refine .bnd Qoy fun p=>?_
        have body : ∀ (ys : Array Value) (fs : Array Field), Tame P (forIn fs ((none : Option Bool), ()) fun f __s => (if f.name ≠ "_" then (part f.type cs f.offset >>= fun a => part f.type ys f.offset >>= fun b => Op.equalIn d f.type a b >>= fun r => if (!r) = true then (pure (ForInStep.done (some false, ())) : Sem _) else pure (ForInStep.yield (none, ()))) else pure (ForInStep.yield (none, ())))) := fun ys fs => by
          rw [<-Array.forIn_toList];refine Qvk _ (fun f b=>Jk ?_ (.pure _)) _ _;refine .bindP NP (Qen _ _ _) (NP.part hc) fun a ha=>.bnd (Qen _ _ _) fun b=>.bnd (Qow d _ _ _ ha) fun r=>Jk (.pure _) (.pure _)
        refine Jk (.bnd (Qax _) fun _=>?_) ?_
        all_goals
          refine .bnd (body _ _) fun r=>?_;dsimp only;split<;>exact .pure _
      · rename_i heq;obtain rfl:=Value.agg.inj heq;refine .bnd (Jy _) fun n=>.bnd ?_ fun r=>?_
        · rw [Std.Legacy.Range.forIn_eq_forIn_range'];refine Qvk _ (fun f b=>?_) _ _;exact .bindP NP (Qen _ _ _) (NP.part hc) fun a ha=>.bnd (Qen _ _ _) fun b=>.bnd (Qow d _ _ _ ha) fun r=>Jk (.pure _) (.pure _)
        · dsimp only;split<;>exact .pure _
end
end Go.Gw

end
section
set_option linter.unusedSectionVars false
namespace Go.Gw
open Go
section
variable {P:Program} [JD P] {n:Nat} {q:Post} {ρ:Env} {w:World}
variable {d:Option Nat} {t T U:TypeId} {p:String} {af:Array Edge} {gu:Option (Nat×Bool)} {x y z:Operand}

theorem Qf {α:Type} {a x:α} (h:some a=some x):a=x:=Option.some.inj h

theorem Xe {c:Code} (M:Env->World->Prop) (h:∀ K:Env->World->Prop,(∀ ρ w,M ρ w->K ρ w)->WC P n c ⟨K,q.ex,q.ret⟩ ρ w) (h2:∀ ρ w,M ρ w->q.norm ρ w):WC P n c q ρ w :=
 (h M fun _ _ h=>h).mono h2 (fun _ _ _ h=>h) (fun _ _ h=>h)

omit [JD P] in
structure EqS (P:Program) (T:TypeId) (X Y:Array Value) (r:Bool):Prop where
 np:∀ c∈X.toList,Qdy c=true
 run:∀ w,(Op.equalIn (9999+1) T (.agg X) (.agg Y)).run P w=.ok r w
theorem QCt {X Y:Value} {r:Bool} (h:(Op.equalIn (9999+1) T X Y).run P w=.ok r w):(Op.equal T X Y).run P w=.ok r w:=by
 trivial
theorem QEh {X Y:Array Value} {r:Bool} {f:Bool->Bool} (hg:P.eqGuardType P.depth T=false) (h:EqS P T X Y r):Tame P (Op.equal T (.agg X) (.agg Y)):=Qow _ _ _ _ (.inr ⟨X,rfl,h.np⟩)
theorem QEi {α:Type} {op:BinOp} {X Y:Array Value} {m:Sem α} (hg:P.eqGuardType P.depth T=false) (hm:Tame P m):Tame P (eqGuard op T x y (.agg X) (.agg Y) >>= fun _=>m):=by
 refine .same _ m (fun w es=>?_) hm;simp_all [eqGuard,Xb]
theorem Q0c {X Y:Array Value} {r:Bool} (hg:P.eqGuardType P.depth T=false) (hx:Qm n ρ x=.agg X) (hy:Qm n ρ y=.agg Y) (h:EqS P T X Y r):Yl P n ρ ⟨d,.binOp .eql T x y U,t,p,af,gu⟩ w (.bool r) :=
 YL (X0 (by simp only [hx,hy];exact QEi hg (.bnd (QEh (f:=id) hg h) fun _=>.pure _))) fun w1 _=>by simp [execOp,hx,hy,eqGuard,binOp,QCt (h.run w1),hg,Result.andThen]
theorem Q0m {X Y:Array Value} {r:Bool} (hg:P.eqGuardType P.depth T=false) (hx:Qm n ρ x=.agg X) (hy:Qm n ρ y=.agg Y) (h:EqS P T X Y r):Yl P n ρ ⟨d,.binOp .neq T x y U,t,p,af,gu⟩ w (.bool (!r)) :=
 YL (X0 (by simp only [hx,hy];exact QEi hg (.bnd (QEh (f:=id) hg h) fun _=>.pure _))) fun w1 _=>by simp [execOp,hx,hy,eqGuard,binOp,QCt (h.run w1),hg,Result.andThen]

theorem Elems.cons {α:Type} [Rep α] {L:List Value} {cs rest:List Value} {x:α} {xs:List α} (h:Rep.rd L w cs x) (hs:Elems L w rest xs):Elems L w (cs++rest) (x::xs):=(Elems.one h).append hs

end
end Go.Gw
namespace Go.Gw
open Go
section
variable {P:Program} {T:TypeId}
theorem Yo {k:Nat} (h:(P.info? T).map (·.size)=some k):Xi P T k:=by
 cases hi:P.info? T with
 | none=>grind
 | some i=>simp [hi] at h;exact ⟨i,hi,h⟩
theorem Qbd {k:Nat} {dsc:TypeDesc} (hm:match dsc with | .struct _ | .array _ _=>True | _=>False) (hu:P.underlying T=some dsc) (h:(P.info? T).map (·.size)=some k):Aggr P T k:=by
 obtain ⟨i,hi,hk⟩:=Yo h;exact ⟨dsc,i,hu,hm,hi,hk⟩
theorem JF {k bytes:Nat} {z:Value} (h:(P.info? T).bind (fun i=>i.zero.map fun z=>(i.size,i.bytes,z))=some (k,bytes,z)) (hz:z.cells.size=k) (hk:0 < k):EInfo P T k bytes z:=by
 cases hi:P.info? T with
 | none=>grind
 | some i =>
  simp only [hi,Qr,Ed,Prod.mk.injEq] at h;obtain ⟨z',h1,h2,h3,h4⟩:=h;exact ⟨⟨i,hi,h2,h3,by rw [h1,h4],hz,hk⟩⟩
theorem Qan {places:List (Nat×Nat)} {zero:List Value} {fs:Array Field} (hu:P.underlying T=some (.struct fs)) (hz:(P.info? T).bind (fun i=>i.zero.map fun z=>z.cells)=some zero.toArray)
  (hp:fs.toList.mapM (fun f=>(P.info? f.type).map fun i=>(f.offset,i.size))=some places):BI P T places zero:=by
 cases hi:P.info? T with
 | none=>grind
 | some i =>
  simp only [hi,Qr,Ed] at hz;obtain ⟨z,h1,h2⟩:=hz;exact ⟨⟨i,fs,z,hi,hu,h1,h2,hp⟩⟩
theorem Z1 {cs:List Value} (hz:(P.info? T).bind (fun i=>i.zero.map fun z=>z.cells.toList)=some cs):ZI P T cs:=by
 cases hi:P.info? T with
 | none=>grind
 | some i =>
  simp only [hi,Qr,Ed] at hz;obtain ⟨z,h1,h2⟩:=hz;exact ⟨⟨i,z,hi,h1,h2⟩⟩
end
end Go.Gw
namespace Go.Gw
open Go
theorem Qz {L:List Value} {w:World} {b:Nat} {cs:List Value} {T:TypeId} (h:LtL L w) (hB:Box w b cs T):LtL (.pointer (some ⟨b,0,none⟩)::L) w:=h.cons fun k hk=>by
 have e:b=k:=by grind [Qu]
 subst e;exact hB.lt
theorem Yu {α:Type} [Rep α] {e:TypeId} {L L':List Value} {w:World} {v:Value} {xs:List α} (h:LtL L w) (hO:Own e L' w v xs):LtL (v::L) w:=h.cons fun _ hk=>hO.blk_lt hk
end Go.Gw
namespace Go.Gw
open Go
theorem Q5 {v:Value} (h:v.oneCell'=true):v.cells.toList=[v]:=by
 cases v<;>first | rfl | cases h

def Qdb (place:Nat->Option (Nat×Nat)) (cells:List Value):List (Nat×List Value)->Option (List Value)
 | []=>some cells
 | (i,vs)::rest =>
  match place i with
  | none=>none
  | some (off,size)=>bif Nat.beq vs.length size&&Eb (off+vs.length) cells.length then Qdb place (YT cells off vs) rest else none
theorem Qyk (place:Nat->Option (Nat×Nat)):∀ (pv:List (Nat×Value)) (cells:List Value),J9 place cells pv=Qdb place cells (pv.map fun q=>(q.1,q.2.cells.toList))
 | [],_=>rfl
 | (i,v)::rest,cells=>by
  simp only [J9,Qdb,List.map_cons];cases place i with
  | none=>rfl
  | some p=>simp only [Qyk place rest]

section
variable {P:Program} [JD P] {n:Nat} {q:Post} {ρ:Env} {w:World}
variable {d:Option Nat} {t T U:TypeId} {p:String} {af:Array Edge} {gu:Option (Nat×Bool)} {x y z:Operand}
def PC (n:Nat) (ρ:Env) (parts:List (Nat×Operand)) (pc:List (Nat×List Value)):Prop:=parts.map (fun q=>(q.1,(Qm n ρ q.2).cells.toList))=pc
theorem QP:PC n ρ [] []:=rfl
theorem Qt {i:Nat} {v:Value} {cs:List Value} {ps:List (Nat×Operand)} {pc:List (Nat×List Value)} (h:Qm n ρ x=v) (hc:v.cells.toList=cs) (hs:PC n ρ ps pc):PC n ρ ((i,x)::ps) ((i,cs)::pc):=by
 grind [PC]
theorem PC.fill {parts:List (Nat×Operand)} {pc:List (Nat×List Value)} {place:Nat->Option (Nat×Nat)} {cells out:List Value} (h:PC n ρ parts pc) (hf:Qdb place cells pc=some out):J9 place cells (parts.map fun q=>(q.1,Qm n ρ q.2))=some out:=by
 rw [Qyk,List.map_map];unfold PC at h;rw [<-hf,<-h];rfl
theorem Xo {cells zero:List Value} {places:List (Nat×Nat)} {parts:List (Nat×Operand)} {pc:List (Nat×List Value)} (hB:BI P T places zero) (hp:PC n ρ parts pc) (h:Qdb (places[·]?) zero pc=some cells) :
  Yl P n ρ ⟨d,.build T parts.toArray,t,p,af,gu⟩ w (.agg cells.toArray):=QZs hB (hp.fill h)
theorem XM {α:Type} [Rep α] {e:TypeId} {bytes:Nat} {z:Value} {L:List Value} {len:Nat} {xs:List α} {cells:List Value} {parts:List (Nat×Operand)} {pc:List (Nat×List Value)} {K:Value->World->Prop}
  (hu:P.underlying T=some (.slice e)) (hi:EInfo P e (Rep.n α) bytes z) (hsmall:Eb (len * Rep.n α) 16777216=true)
  (hp:PC n ρ parts pc) (hf:Qdb (fun i=>some (i * Rep.n α,Rep.n α)) (Qdm z.cells.toList (len * Rep.n α)) pc=some cells)
  (hel:Elems L w cells xs) (hl:xs.length=len) (hlt:LtL L w)
  (h:∀ b w',Ext w w'->SlRd L w' (.slice (some ⟨b,0,none⟩) len len) xs->K (.slice (some ⟨b,0,none⟩) len len) w'):Eff P ⟨d,.buildSlice T len parts.toArray,t,p,af,gu⟩ n ρ w K :=
 QIe hu hi hsmall (hp.fill hf) hel hl hlt h
theorem Qky {α:Type} [Rep α] {e:TypeId} {bytes:Nat} {z:Value} {L:List Value} {len:Nat} {xs:List α} {cells:List Value} {parts:List (Nat×Operand)} {pc:List (Nat×List Value)} {K:Value->World->Prop}
  (hu:P.underlying T=some (.slice e)) (hi:EInfo P e (Rep.n α) bytes z) (hsmall:Eb (len * Rep.n α) 16777216=true)
  (hp:PC n ρ parts pc) (hf:Qdb (fun i=>some (i * Rep.n α,Rep.n α)) (Qdm z.cells.toList (len * Rep.n α)) pc=some cells)
  (hel:Elems L w cells xs) (hl:xs.length=len)
  (h:∀ v w',Ext w w'->(∀ b,Qu v=some b->w.heap.size<=b)->Own e (v::L) w' v xs->K v w'):Eff P ⟨d,.buildSlice T len parts.toArray,t,p,af,gu⟩ n ρ w K :=
 QId hu hi hsmall (hp.fill hf) hel hl h
end
end Go.Gw
namespace Go.Gw
open Go
section
variable {P:Program} [JD P] {n:Nat} {ρ:Env} {w:World}
variable {d:Option Nat} {t T U:TypeId} {p:String} {af:Array Edge} {gu:Option (Nat×Bool)} {x y z:Operand}
theorem Qhp {f : FuncId} {fn : Func} {c : Code} {xs : Array Operand} {aT : Array TypeId} {args : List Value} {K Φ : Value → World → Prop} (hy : Qm n ρ y = .func (.func f) #[] #[]) (hf : P.funcs[f]? = some fn) (hname : (fn.name == "runtime.NumGoroutine") = false) (hb : fn.body = some c)
    (ha:(xs.map (Qm n ρ)).toList=args) (hc:CallsTo P f args w Φ) (h:∀ v w',Φ v w'->K v w'):Eff P ⟨d,.call ⟨.value y,xs,aT⟩,t,p,af,gu⟩ n ρ w K:=by
  have e:xs.map (Qm n ρ)=args.toArray:=by rw [<-ha]
  have this:∀ w es,(execOp (Qm n ρ) ⟨d,.call ⟨.value y,xs,aT⟩,t,p,af,gu⟩).runT P w es=(.ok (.enter f args.toArray) w,es):=fun w es=>by
    refine Eq.trans ?_ (Qoe (args:=args.toArray) hf hname hb);simp_all [execOp,resolve,Deferred.ofValue,invoke,pure_bind,Array.empty_append,Array.append_empty]
  refine ⟨(Tame.still _ this).fr,.inr fun w1 r=>?_⟩;rw [show (execOp (Qm n ρ) ⟨d,.call ⟨.value y,xs,aT⟩,t,p,af,gu⟩).run P w1=_ from by rw [<-Sem.runT_fst P _ w1 #[],this]];exact CallsJ.rely (CallsTo.mono hc h) r
theorem At.elem {a:Addr} {cs:List Value} {i:Nat} {u:Value} (h:At w a cs) (hi:cs[i]?=some u):At w (a.add (i * 1)) [u]:=by
 have h2:=(At.drop h i).take 1;rw [Ei]
 grind [take,Ej,Ef]
end
end Go.Gw
namespace Go.Gw
open Go
end Go.Gw

end
section
set_option linter.unusedSectionVars false
namespace Go.Gw
open Go
section
variable {P:Program} [JD P] {n:Nat} {ρ:Env} {w:World}
variable {d:Option Nat} {t T U:TypeId} {p:String} {af:Array Edge} {gu:Option (Nat×Bool)} {x y z:Operand}

theorem Qgp {cells zero:List Value} {m e sz:Nat} {parts:List (Nat×Operand)} {pc:List (Nat×List Value)} (hu:P.underlying T=some (.array m e)) (hs:Xi P e sz) (hz:ZI P T zero) (hp:PC n ρ parts pc)
  (h:Qdb (fun i=>some (i * sz,sz)) zero pc=some cells):Yl P n ρ ⟨d,.build T parts.toArray,t,p,af,gu⟩ w (.agg cells.toArray):=by
 obtain ⟨it,z,h1,h3,h4⟩:=hz.ex;obtain ⟨ie,he,hsz⟩:=hs;have h':P.built T (parts.toArray.map fun (i,x)=>(i,Qm n ρ x)).toList=some cells.toArray:=by
  simp only [Program.built,h1,hu,h3,he,hsz];have:=Qle _ _ _ (hp.fill h);have hz':z.cells=zero.toArray:=by rw [<-h4]
  simp_all
 grind [YL,X0,QEe,execOp,Sem.run_bind,run_build,Result.andThen,Sem.run_pure]

theorem Qah {e m sz:Nat} {k:IntKind} {i:Int} {a:Addr} {v:Value} (hu:P.underlying T=some (.array m e)) (hs:Xi P e sz) (h0:0<=i) (h1:i < m) (hx:Qm n ρ x=.pointer (some a)) (hy:Qm n ρ y=.int k i)
  (hv:v=.pointer (some (a.add (i.toNat * sz)))):Yl P n ρ ⟨d,.indexAddr T x y,t,p,af,gu⟩ w v:=by grind [Qwe]

theorem QVb {cs:List Value} {off:Nat} {v:Value} (hT:YO P T) (h:cs[off]?=some v):(part T cs.toArray off).run P w=.ok v w:=by
 simp [part,QCu hT,h]
theorem QVa {cs ds:List Value} {off k:Nat} (hT:Aggr P T k) (h:(cs.drop off).take k=ds):(part T cs.toArray off).run P w=.ok (.agg ds.toArray) w:=by
 subst h;simp [part,Que hT,YW hT.size,Em]
end
end Go.Gw

end
section
set_option linter.unusedSectionVars false
namespace Go.Gw
open Go
section
variable {P:Program} [JD P] {n:Nat} {q:Post} {ρ:Env} {w:World}

inductive Pl where
 | done
 | p (i:Nat) (r:Pl)
 | q (i:Nat) (r:Pl)
 | e (i:Nat) (r:Pl)
 | b (i:Nat) (r:Pl)
 | f (i:Nat) (r:Pl) (j:Nat) (s:Pl)
def Pl.hasQ:Pl->Bool
 | .done=>false
 | .p _ r=>r.hasQ
 | .q _ _=>true
 | .e _ r=>r.hasQ
 | .b _ _=>false
 | .f _ r _ s=>r.hasQ||s.hasQ
def Pl.len:Pl->Nat
 | .done=>0
 | .p _ r=>r.len+1
 | .q _ r=>r.len+1
 | .e _ r=>r.len+1
 | .b _ r=>r.len+1
 | .f _ r _ _=>r.len+1
def Pl.brk:Pl->List Nat
 | .done=>[]
 | .p _ r=>r.brk
 | .q _ r=>r.brk
 | .e _ r=>r.brk
 | .b i r=>i::r.brk
 | .f _ r _ s=>r.brk++s.brk

def TP (P:Program) [JD P] (n:Nat) (ops:List Oper) (S:World->Prop) (K:Env->World->Prop):Pl->Env->World->Prop
  | .done,ρ,w=>K ρ w
  | .p i r,ρ,w=>∃ o v,ops[i]?=some o/\Quiet P n ops.toArray (fun _=>True) o ρ v/\TP P n ops S K r (Xn ρ o.dst v) w
  | .q i r,ρ,w=>∃ o v,ops[i]?=some o/\Quiet P n ops.toArray S o ρ v/\TP P n ops S K r (Xn ρ o.dst v) w
  | .e i r,ρ,w=>∃ o,ops[i]?=some o/\Stp P n ops.toArray o ρ w (fun ρ' w'=>S w'/\TP P n ops S K r ρ' w')
  | .b i r,ρ,w=>∃ o,ops[i]?=some o/\Stp P n ops.toArray o ρ w (fun ρ' w'=>TP P n ops S K r ρ' w')
  | .f i r j s, ρ, w => (∃ o, ops[i]? = some o /\ Stp P n ops.toArray o ρ w (fun ρ' w' => S w' /\ TP P n ops S K r ρ' w')) /\
      (∃ o,ops[j]?=some o/\Stp P n ops.toArray o ρ w (fun ρ' w'=>S w'/\TP P n ops S K s ρ' w'))

def JJ (ops:Array Oper) (bs:List Nat):Pl->Array Bool->Bool
 | .done,listed=>(Region.ready .any ops listed).isEmpty
 | .p i r,listed=>Region.free .any ops listed i&&(Region.ready .any ops listed).contains i&&JJ ops bs r (listed.setIfInBounds i true)
 | .q i r,listed=>(bs.all fun b=>Qdf ops ops.size b i)&&Region.free .any ops listed i&&(Region.ready .any ops listed).contains i&&JJ ops bs r (listed.setIfInBounds i true)
 | .e i r,listed=>Region.ready .any ops listed == [i]&&(!bs.contains i&&JJ ops bs r (listed.setIfInBounds i true))
 | .b i r,listed=>Region.ready .any ops listed == [i]&&(bs.contains i&&(!r.hasQ&&JJ ops bs r (listed.setIfInBounds i true)))
 | .f i r j s,listed=>Region.ready .any ops listed == [i,j]&&(Nat.beq r.len s.len&&(!bs.contains i&&(!bs.contains j&&(JJ ops bs r (listed.setIfInBounds i true)&&JJ ops bs s (listed.setIfInBounds j true)))))

def QCa (ops:Array Oper) (p:Pl):Bool:=Region.noSelect ops&&(Nat.beq p.len ops.size&&JJ ops p.brk p (Array.replicate ops.size false))

theorem QYk {listed:Array Bool} {i x:Nat} (h:(listed.setIfInBounds i true).getD x true=false):listed.getD x true=false/\x≠i:=by
 by_cases hx:i=x
 ·simp_all
 ·rw [getD_set_ne true hx] at h;grind

section
variable {S:World->Prop} {K:Env->World->Prop} {ops:List Oper} {o:Oper} {i:Nat} {r:Pl} {v:Value}
end
end
end Go.Gw

end
section
set_option linter.unusedSectionVars false
namespace Go.Gw
open Go
section
variable {P:Program} [JD P] {n:Nat} {ρ:Env} {w:World}
variable {d:Option Nat} {t T U:TypeId} {p:String} {af:Array Edge} {gu:Option (Nat×Bool)} {x y z:Operand}

theorem Qla {α:Type} [Rep α] {e:TypeId} {L:List Value} {v:Value} {xs:List α} {i:Int} {el y':α} {off k:Nat} {u:Value} {vs:List Value} {K:Value->World->Prop} (hs:Xi P T k) (hc:u.cells.toList=vs) (hk:vs.length=k) (hown:Own e L w v xs) (hv:v∈L) (hel:idx xs i=some el)
  (hx:Qm n ρ x=.pointer (some ((ZE v i.toNat (Rep.n α)).add off))) (hy:Qm n ρ y=u) (hl:Eb (off+k) (Rep.n α)=true) (h1:∀ c∈vs,c.oneCell'=true)
  (hset:∀ w' cs,Rep.rd L w' cs el->Rep.rd L w' (YT cs off vs) y')
  (h:∀ w',Chg [v] w w'->Own e L w' v (xs.set i.toNat y')->K undef w'):Eff P ⟨d,.store T x y,t,p,af,gu⟩ n ρ w K:=by
 subst hc;subst hk;have e:u.cells.toList.length=u.cells.size:=by simp
 exact QIm (by trivial) hown hv hel hx hy (by simp_all) h1 hset h

def mk {α:Type} (i:Int) (zero:α):Option (List α):=if 0<=i/\i<=1048576 then some (Ec i.toNat zero) else none
theorem Qmv {α:Type} {i:Int} {zero:α} {xs:List α} (h:mk i zero=some xs):0<=i/\i<=1048576/\xs=Ec i.toNat zero:=by
 grind [mk]

theorem Elems.replicate {α:Type} [Rep α] {L:List Value} {c:Value} {zero:α} (h1:Rep.n α=1) (hz:Rep.rd L w [c] zero):∀ m:Nat,Elems L w (Ec m c) (Ec m zero)
 | 0=>Elems.nil
 | m+1=>by
  rw [Eh,Eh];exact Elems.cons (cs:=[c]) hz (Elems.replicate h1 hz m)

theorem QOz (c:Value) (m:Nat):(madeCells #[c] m).toList=Ec m c:=by
 apply List.ext_getElem
 ·simp [madeCells]
 simp_all [madeCells,Nat.mod_one]

theorem Qqt {α:Type} [Rep α] {e:TypeId} {bytes:Nat} {c:Value} {L:List Value} {i:Int} {zero:α} {xs:List α} {k k':IntKind} {K:Value->World->Prop} (h1:Rep.n α=1) (hu:P.underlying T=some (.slice e)) (hi:EInfo P e 1 bytes c) (hcc:c.cells=#[c])
    (hbm:Eb bytes 65536=true) (hz:∀ L w,Rep.rd L w [c] zero) (hx:Qm n ρ x=.int k i) (hy:Qm n ρ y=.int k' i) (hm:mk i zero=some xs)
    (h:∀ v w',Ext w w'->(∀ b,Qu v=some b->w.heap.size<=b)->Own e (v::L) w' v xs->K v w'):Eff P ⟨d,.makeSlice T x y,t,p,af,gu⟩ n ρ w K:=by
  obtain ⟨h0,hmax,rfl⟩:=Qmv hm;obtain ⟨ti,g1,g2,g3,g4,_,_⟩:=hi.ex;have hbm:bytes<=65536:=by simpa using hbm
  obtain ⟨m,rfl⟩:∃ m:Nat,i=(m:Int):=⟨i.toNat,by omega⟩;have hmm:m<=1048576:=by omega
  have hb:ti.bytes * m<=281474976710656:=by
    rw [g3]
    calc bytes * m<=65536 * 1048576:=Ek hbm hmm
      _<=_:=by decide
  refine Ja (X0 (Qvo _ _ _)) fun w1 e1=>?_;obtain ⟨w',hr,ho,hg⟩:=run_makeSlice_full (P:=P) (w:=w1) 0 T e ti c 1 hu g1 g4 g2 k k' m (by omega) hb (by unfold maxLen;omega) (Eu _);have he:Ext w1 w':=⟨hg.os,hg.tape,hg.output,hg.size,fun b hb _=>hg.block b hb (fun e=>by cases e)⟩;simp only [execOp,hx,hy,Sem.run_bind,hr,Result.andThen,Sem.run_pure,effR];refine h _ w' (e1.trans he) (fun b hb=>by have:=e1.size;grind [Qu]) ⟨(madeCells c.cells (m * 1)).toList,?_,?_⟩
  · simp_all
  simp_all [Ei,QOz,Int.toNat_natCast,Elems.replicate]
end
end Go.Gw

end
section
set_option linter.unusedSectionVars false
namespace Go.Gw
open Go
section
variable {P:Program} [JD P] {n:Nat} {ρ:Env} {w:World}
variable {d:Option Nat} {t T U:TypeId} {p:String} {af:Array Edge} {gu:Option (Nat×Bool)} {x y z:Operand}

theorem Q0r {e m sz:Nat} {a:Addr} (hu:P.underlying T=some (.array m e)) (hs:Xi P e sz) (hm:0 < m) (hx:Qm n ρ x=.pointer (some a)) :
  Yl P n ρ ⟨d,.slice T x none none none,t,p,af,gu⟩ w (.slice (some (a.add (0 * sz))) m m):=by
 have h:¬ m=0:=by omega
 exact YL (X0 (J5 _ _ _ _ _)) fun w1 _=>by simp [execOp,hx,Instr.sliceAt,run_underlying hu,Instr.sureAddr,Instr.sliceBounds,YW hs,h]
theorem SlRd.of_box {b off len cap:Nat} {ys:List Int} {cs:List Value} {T':TypeId} {L:List Value} (hb:Box w b cs T') (hA:Avoids L b) (hcs:(cs.drop off).take len=ys.map (Value.int .i64)) (hl:ys.length=len) (hlc:len<=cap) (hc:Eb (off+cap) cs.length=true) (hm:Eb cap 1048576=true) :
  SlRd L w (.slice (some ⟨b,off,none⟩) len cap) ys:=by
 subst hl;have hc:off+cap<=cs.length:=by simpa using hc
 have hm:cap<=1048576:=by simpa using hm
 refine .inr ⟨b,off,cap,cs.toArray,T',(0,0),rfl,hb,hA,hlc,by unfold maxLen;omega,by show off+cap * 1<=_;simp;omega,?_⟩;have:ys.length * Rep.n Int=ys.length:=Ei _;rw [this,show cs.toArray.toList=cs from rfl,hcs];refine ⟨by simp [this],fun i x hx=>?_⟩;show ((ys.map (Value.int .i64)).drop (i * 1)).take 1=[.int .i64 x];obtain ⟨hi,he⟩:=Ef.1 hx;simp_all [Ei,Ej]

theorem QFj {e m sz:Nat} {a:Addr} {v:Value} (hu:P.underlying T=some (.array m e)) (hs:Xi P e sz) (hm:Nat.blt 0 m=true) (hx:Qm n ρ x=.pointer (some a)) (hv:v=.slice (some (a.add (0 * sz))) m m) :
  Yl P n ρ ⟨d,.slice T x none none none,t,p,af,gu⟩ w v:=by grind [Q0r,Nat.blt_eq]
theorem Qam {L:List Value} {b:Nat} (hL:LtL L w) (hb:w.heap.size<=b):Avoids L b:=fun x hx e=>by have:=hL x hx b e;omega
end
end Go.Gw
namespace Go.Gw
end Go.Gw

end
section
set_option linter.unusedSectionVars false
namespace Go.Gw
open Go
section
variable {P:Program} [JD P] {n:Nat} {ρ:Env} {w:World}
theorem QFp {ops:Array Oper} {K:Env->World->Prop} {o:Oper} {os:List Oper} (Φ:Value->World->Prop) (b:Bool) (hw:XL ops o n ρ=b) (ht:b=true->Eff P o n ρ w (fun v w'=>Ext w w'/\Φ v w'))
    (h:∀ v w',Ext w w'->(b=true->Φ v w')->T0 P n ops K os (Xn ρ o.dst (gd b v)) w'):T0 P n ops K (o::os) ρ w :=
  Qwi b hw (fun hb=>(ht hb).mono fun v w' ⟨he,hv⟩=>by grind [Qo])
    (fun hb=>by simp_all [Qht,undef,Chg.refl])
end
end Go.Gw

end
section
set_option linter.unusedSectionVars false
namespace Go.Gw
open Go
section
variable {P:Program} [JD P] {n:Nat} {q:Post} {ρ:Env} {w:World}
end
end Go.Gw

end
section
set_option linter.unusedSectionVars false
namespace Go.Gw
open Go
section
variable {P:Program} [JD P] {n:Nat} {ρ:Env} {w w':World}
variable {d:Option Nat} {t T U:TypeId} {p:String} {af:Array Edge} {gu:Option (Nat×Bool)} {x y z:Operand}
theorem Qba {f:FuncId} {cap:Array Operand} {cs:List Value} (h:(cap.map (Qm n ρ)).toList=cs):Yl P n ρ ⟨d,.makeFunc (.func f) #[] cap,t,p,af,gu⟩ w (.func (.func f) #[] cs.toArray):=by
 have e:cap.map (Qm n ρ)=cs.toArray:=by rw [<-h]
 simp_all [Ym,execOp,Instr.makeFunc]
theorem Qbz {f : FuncId} {fn : Func} {c : Code} {xs : Array Operand} {aT : Array TypeId} {cs us args : List Value} {K Φ : Value → World → Prop} (hy : Qm n ρ y = .func (.func f) #[] cs.toArray) (hf : P.funcs[f]? = some fn) (hname : (fn.name == "runtime.NumGoroutine") = false) (hb : fn.body = some c)
    (ha:(xs.map (Qm n ρ)).toList=us) (hargs:us++cs=args) (hc:CallsTo P f args w Φ) (h:∀ v w',Φ v w'->K v w'):Eff P ⟨d,.call ⟨.value y,xs,aT⟩,t,p,af,gu⟩ n ρ w K:=by
  have e:xs.map (Qm n ρ)=us.toArray:=by rw [<-ha]
  have this:∀ w es,(execOp (Qm n ρ) ⟨d,.call ⟨.value y,xs,aT⟩,t,p,af,gu⟩).runT P w es=(.ok (.enter f args.toArray) w,es):=fun w es=>by
    subst hargs;refine Eq.trans ?_ (Qoe (args:=(us++cs).toArray) hf hname hb);simp_all [execOp,resolve,Deferred.ofValue,invoke,pure_bind,List.append_toArray,List.nil_append]
  refine ⟨(Tame.still _ this).fr,.inr fun w1 r=>?_⟩;rw [show (execOp (Qm n ρ) ⟨d,.call ⟨.value y,xs,aT⟩,t,p,af,gu⟩).run P w1=_ from by rw [<-Sem.runT_fst P _ w1 #[],this]];exact CallsJ.rely (CallsTo.mono hc h) r
theorem Stepp.swap2 {L:List Value} {v v':Value} {b:Nat} (h:Chg [v,.pointer (some ⟨b,0,none⟩)] w w') (hv:∀ k,Qu v'=some k->Qu v=some k\/w.heap.size<=k):Stepp (v::.pointer (some ⟨b,0,none⟩)::L) w (v'::.pointer (some ⟨b,0,none⟩)::L) w' :=
 .of (h.mono (fun y hy=>by
  grind)) fun y hy k e=>by
  grind [Qed,El,List.mem_cons_self]
theorem Qxe {v:Value} {b b':Nat} (h:Qu v≠some b) (h2:b'≠b):Avoids [v,.pointer (some ⟨b',0,none⟩)] b:=fun x hx e=>by
 grind [Ee,Qu]
theorem Qff {v:Value} {b:Nat} {w0:World} (h:Ext w0 w) (c:Chg [v,.pointer (some ⟨b,0,none⟩)] w w') (hf:∀ k,Qu v=some k->w0.heap.size<=k) (hb:w0.heap.size<=b):Ext w0 w':=Chg.fresh h c (fun x hx n e=>by
 grind [Ee,Qu])
theorem Qfc {v:Value} {hi k:Nat}:Qu (Yf v 0 hi k)=Qu v:=by
 cases v<;>try rfl
 rename_i a len cap;cases a with
 | none=>simp [Yf,Qu]
 | some a =>
  simp_all [Eo,Qu,Addr.add,Yf,Es]
theorem Own.cutf {α:Type} [Rep α] {e:TypeId} {L:List Value} {v:Value} {xs ys:List α} {hi:Int} (h:Own e L w v xs) (hc:cut xs 0 hi=some ys):Own e L w (Yf v 0 hi.toNat (Rep.n α)) ys:=by
  obtain ⟨h0,h1,h2,rfl⟩:=Qbe hc;obtain ⟨cells,⟨hl,ho⟩,hel⟩:=h;have hk:hi.toNat<=xs.length:=by omega
  have hlen:((xs.take hi.toNat).drop (0:Int).toNat).length=hi.toNat:=by simp;omega
  have ht:(xs.take hi.toNat).drop (0:Int).toNat=xs.take hi.toNat:=by simp
  have hle:hi.toNat * Rep.n α<=cells.length:=by simp_all [Ea]
  refine ⟨cells.take (hi.toNat * Rep.n α),⟨by simp_all,?_⟩,?_⟩
  · rcases ho with ⟨rfl,hz⟩ | ⟨g,cap,cur,rfl,hb,hh,h4,h5,h6,h7⟩
    · grind [Yf]
    · right;refine ⟨g,cap,cur,?_,hb,hh,by omega,h5,h6,?_⟩
      · simp_all [Eo,YP,Yf,Es,Nat.sub_zero]
      grind
  · rw [ht];refine ⟨by simp_all,fun i x hx=>?_⟩;have hi2:i < hi.toNat:=by
      grind
    rw [Eg hi2] at hx;have:=hel.2 i x hx;have hlt:i * Rep.n α+Rep.n α<=hi.toNat * Rep.n α:=by rw [<-En];exact Ea _ hi2
    grind [Nat.min_eq_left,List.drop_take]
theorem Qwb {α:Type} [Rep α] {e e2:TypeId} {L:List Value} {w2:World} {v:Value} {xs ys:List α} {k':IntKind} {hi:Int} (hu:P.underlying T=some (.slice e)) (hz:Xi P e (Rep.n α)) (hs:Own e2 L w2 v xs) (hc:cut xs 0 hi=some ys)
  (hx:Qm n ρ x=v) (hh:Qm n ρ z=.int k' hi):Yl P n ρ ⟨d,.slice T x none (some z) none,t,p,af,gu⟩ w (Yf v 0 hi.toNat (Rep.n α)) :=
 Qeu hu hz ((hs.sub (L':=[]) (fun _ h=>by cases h)).rd (fun b _=>Avoids.nil b)) hc hx hh
theorem Stepp.ren {L:List Value} {v v':Value} (h:Qu v'=Qu v):Stepp (v::L) w (v'::L) w:=Stepp.swap (Chg.refl _ _) (fun b hb=>.inl (by simp_all))
end
end Go.Gw

end
section
set_option linter.unusedSectionVars false
namespace Go.Gw
open Go
section
variable {P:Program} [JD P] {n:Nat} {ρ:Env} {w w':World}
variable {d:Option Nat} {t T U:TypeId} {p:String} {af:Array Edge} {gu:Option (Nat×Bool)} {x y z:Operand}
end
end Go.Gw

end
section
set_option linter.unusedSectionVars false
namespace Go.Gw
open Go
def isnil:Value->Bool
 | .slice none _ _=>true
 | _=>false
section
variable {P:Program} [JD P] {n:Nat} {ρ:Env} {w w':World}
variable {d:Option Nat} {t T U:TypeId} {p:String} {af:Array Edge} {gu:Option (Nat×Bool)} {x y z:Operand}
theorem Qwc {α:Type} [Rep α] {e:TypeId} {L:List Value} {w2:World} {v:Value} {xs:List α} (hu:P.underlying T=some (.slice e)) (hs:SlRd L w2 v xs) (hx:Qm n ρ x=v) (hy:Qm n ρ y=.slice none 0 0) :
  Yl P n ρ ⟨d,.binOp .eql T x y U,t,p,af,gu⟩ w (.bool (isnil v)):=by
 have:∃ a m c,v=.slice a m c:=by
  rcases hs with ⟨a0,h,_⟩ | ⟨b,off,cap,cur,e,fz,h1,_⟩
  ·simp_all
  simp_all
 obtain ⟨a,m,c,rfl⟩:=this;have h1:∀ w,(Op.equal T (.slice a m c) (.slice none 0 0)).run P w=.ok a.isNone w:=fun w=>by
  grind [Op.equal,Op.maxDepth,Lib.run_equalIn_slice_nil]
 have ht:Tame P (Op.equal T (.slice a m c) (.slice none 0 0)):=by
  rw [Op.equal,show Op.maxDepth=9999+1 from rfl,Op.equalIn];refine .und hu ?_;cases a<;>exact .pure _
 have h2:a.isNone=isnil (.slice a m c):=by cases a<;>rfl
 rw [<-h2];exact YL (X0 (by simp only [eqGuard,binOp,hx,hy];exact .bnd (.pure _) fun _=>.bnd ht fun _=>.pure _)) fun w1 _=>by simp_all [execOp,eqGuard,binOp,Result.andThen]
theorem SlRd.isnil {α:Type} [Rep α] {L:List Value} {v:Value} {xs:List α} (hs:SlRd L w v xs) (h:isnil v=true):xs=[]:=by
 rcases hs with ⟨a0,rfl,h2⟩ | ⟨b,off,cap,cur,e,fz,rfl,_⟩
 ·exact h2
 ·cases h
theorem Qsz {α β:Type} {xs:List α} {f:List α->Option β} {e:Option β} {r:β} (h0:xs=[]) (h:f xs=some r) (he:f []=e):e=some r:=by simp_all
end
end Go.Gw

end
section
set_option linter.unusedSectionVars false
namespace Go.Gw
open Go
def U8:Type:=Int
instance:Rep U8:=⟨1,fun _ _ cs d=>cs=[.int .u8 d],fun h=>by subst h;rfl,fun h=>by grind [Value.oneCell'],fun _ h=>h⟩
def bl (s:ByteArray):List U8:=s.data.toList.map fun b=>((b.toNat:Nat):Int)
theorem Zu (s:ByteArray):(bl s).length=s.size:=by
 show (List.map (fun b:UInt8=>((b.toNat:Nat):Int)) s.data.toList).length=s.size;simp
theorem Qqh (a b:ByteArray):(a.toList == b.toList)=decide (a=b):=by
 rw [ByteArray.toList_eq,ByteArray.toList_eq];by_cases h:a=b
 ·grind
 ·have:¬ a.data.toList=b.data.toList:=fun e=>h (by cases a;simp_all)
  simp_all
theorem QHb (a b:ByteArray):a.toList=b.toList↔a=b:=by
 grind [decide_eq_false,beq_eq_false_iff_ne,absurd,Qqh]
def cat (a b:ByteArray):Option ByteArray:=if a.size+b.size<=1048576 then some (a++b) else none
def tob (s:ByteArray):Option (List U8):=if s.size<=1048576 then some (bl s) else none
section
variable {P:Program} [JD P] {n:Nat} {ρ:Env} {w:World}
variable {d:Option Nat} {t T U:TypeId} {p:String} {af:Array Edge} {gu:Option (Nat×Bool)} {x y z:Operand}
theorem Qaz {a b:ByteArray} (hx:Qm n ρ x=.string a) (hy:Qm n ρ y=.string b):Yl P n ρ ⟨d,.binOp .eql T x y U,t,p,af,gu⟩ w (.bool (decide (a=b))):=Ym fun w es=>by
 simp_all [execOp,eqGuard,binOp,Op.stringOp,Qqh]
theorem QFi {a b:ByteArray} (hx:Qm n ρ x=.string a) (hy:Qm n ρ y=.string b):Yl P n ρ ⟨d,.binOp .neq T x y U,t,p,af,gu⟩ w (.bool (!decide (a=b))):=Ym fun w es=>by
 simp_all [execOp,eqGuard,binOp,Op.stringOp,bne,Qqh]
theorem Qgr {a b c:ByteArray} (h:cat a b=some c) (hx:Qm n ρ x=.string a) (hy:Qm n ρ y=.string b):Yl P n ρ ⟨d,.binOp .add T x y U,t,p,af,gu⟩ w (.string c):=Ym fun w es=>by
 unfold cat at h;split at h
 ·rename_i hc;cases h;have:¬ ((a.size+b.size:Nat):Int) > IntKind.i64.max:=by simp [IntKind.max,IntKind.bits,IntKind.signed];omega
  simp_all [execOp,eqGuard,binOp,Op.stringOp,if_neg]
 ·cases h
theorem QLz {s:ByteArray} {i:Int} {el:U8} (h:idx (bl s) i=some el):(if 0<=i then s[i.toNat]? else none)=some (UInt8.ofNat (Int.toNat el))/\(((UInt8.ofNat (Int.toNat el)).toNat:Nat):Int)=el:=by
 obtain ⟨h0,h1,h2⟩:=JG h;rw [Zu] at h1;rw [if_pos h0,ByteArray.getElem?_lt' s _ h1];replace h2:((s.data.toList.map fun b=>((b.toNat:Nat):Int)):List Int)[i.toNat]?=some (el:Int):=h2;rw [List.getElem?_map] at h2;obtain ⟨b,hb,hbe⟩:=Ed.1 h2;subst hbe;have e:s[i.toNat]=b:=by
  rw [Ef] at hb;obtain ⟨_,hb⟩:=hb;trivial
 simp_all
theorem Qgs {k:IntKind} {s:ByteArray} {i:Int} {el:U8} (hu:P.underlying T=some .string) (hx:Qm n ρ x=.string s) (hy:Qm n ρ y=.int k i) (h:idx (bl s) i=some el):Yl P n ρ ⟨d,.index T x y,t,p,af,gu⟩ w (.int .u8 el):=by
 obtain ⟨h1,h2⟩:=QLz h;refine YL (X0 (Qvl _ _ _)) fun w1 _=>?_;simp_all [execOp,Instr.index,asIntOf,pure_bind,Sem.run_bind,run_underlying,Result.andThen,Sem.run_pure]
def JO (s:ByteArray) (cap:Nat):Array Value:=s.data.map (fun b=>Value.int .u8 b.toNat)++Array.replicate (cap - s.size) (.int .u8 0)
def Qjs (e:TypeId) (s:ByteArray):Sem Value:=do
 let cap <-choose (.appendCap s.size 0 e)
 let b <-newObj (.cells (JO s cap) e ((JO s cap).size,(JO s cap).size+1))
 pure (.slice (some ⟨b,0,none⟩) s.size cap)
theorem QDk (e:TypeId) (s:ByteArray) (w:World) (es:Array Event):(Conv.stringToBytes e s).runT P w es=(Qjs e s).runT P w es:=by
 unfold Conv.stringToBytes Qjs markStringish;rw [show (choose (.appendCap s.size 0 e) >>= _:Sem Value)=(choose (.appendCap s.size 0 e)).bind _ from rfl,Go.Sem.runT_bind'];rw [show (choose (.appendCap s.size 0 e) >>= _:Sem Value)=(choose (.appendCap s.size 0 e)).bind _ from rfl,Go.Sem.runT_bind'];generalize (choose (.appendCap s.size 0 e)).runT P w es=r;obtain ⟨r,es⟩:=r;cases r with
 | halt h w=>rfl
 | ok cap w =>
  simp only [newRow,newObj,shape,freeze,Bind.bind,Sem.bind,Pure.pure,Sem.runT,World.shape?,Array.getElem?_push_size];unfold World.freeze;simp only [Nat.one_ne_zero,if_false];congr 2;congr 1;apply Array.ext_getElem?;intro i;rw [Array.getElem?_modify,Array.getElem?_push,Array.getElem?_push];by_cases hi:w.heap.size=i
  ·grind [JO]
  grind
theorem QXu (e:TypeId) (s:ByteArray):Tame P (Conv.stringToBytes e s) :=
 .same _ _ (QDk e s) (.bnd (Qel _) fun cap=>.bnd (Qka _ rfl) fun b=>.pure _)
theorem QXm {e:TypeId} {s:ByteArray} (hu:P.underlying T=some .string) (hU:P.underlying U=some (.slice e)) (he:P.underlying e=some (.int .u8)):Tame P (convert T U (.string s)):=by
 unfold convert;exact .und hu (.und hU (.und he (QXu _ _)))
theorem QIy (s:ByteArray) (cap:Nat) (L:List Value):Elems L w (((JO s cap).toList.drop 0).take (s.size * Rep.n U8)) (bl s):=by
 have e1:Rep.n U8=1:=rfl;have hl:(s.data.toList.map fun b=>Value.int .u8 b.toNat).length=s.size:=by simp
 have e2:((JO s cap).toList.drop 0).take (s.size * Rep.n U8)=s.data.toList.map fun b=>Value.int .u8 b.toNat:=by
  simp_all [List.take_append_of_le_length,Nat.le_refl,List.take_of_length_le,JO,Array.toList_append,Array.toList_map,Ei,List.drop_zero]
 rw [e2];refine ⟨by rw [hl,Zu,e1,Ei],fun i x hx=>?_⟩;rw [e1,Ei];replace hx:((s.data.toList.map fun b=>((b.toNat:Nat):Int)):List Int)[i]?=some (x:Int):=hx;rw [List.getElem?_map] at hx;obtain ⟨b,hb,hbe⟩:=Ed.1 hx;subst hbe;show ((s.data.toList.map fun b=>Value.int .u8 b.toNat).drop i).take 1=[.int .u8 (b.toNat:Int)]
 grind [Ej,List.length_map,Ef]
theorem Qqu {e:TypeId} {s:ByteArray} {xs:List U8} {L:List Value} {K:Value->World->Prop} (hu:P.underlying T=some .string) (hU:P.underlying U=some (.slice e)) (he:P.underlying e=some (.int .u8)) (hx:Qm n ρ x=.string s) (hs:tob s=some xs) (hlt:LtL L w)
    (h:∀ v w',Ext w w'->SlRd L w' v xs->K v w'):Eff P ⟨d,.convert T U x,t,p,af,gu⟩ n ρ w K:=by
  unfold tob at hs;split at hs
  · rename_i hsz;cases hs;refine Ja (X0 (by grind [QXm])) fun w1 e1=>?_;have hrun:(convert T U (.string s)).run P w1=(Qjs e s).run P w1:=by
      have h1:=QDk (P:=P) e s w1 #[];simp_all [Sem.runT_fst,convert,Conv.stringToBytes,run_underlying]
    generalize hcap:Question.cut (.appendCap s.size 0 e) (w1.tape w1.drawn (.appendCap s.size 0 e))=cap;have hcb:s.size<=cap/\cap<=maxLen:=by
      rw [<-hcap];simp only [Question.cut];have:=Nat.mod_lt (w1.tape w1.drawn (.appendCap s.size 0 e)) (show 0 < 2 ^ 63 - s.size by omega)
      grind [maxLen]
    have hr2:(Qjs e s).run P w1=.ok (.slice (some ⟨w1.heap.size,0,none⟩) s.size cap) { w1 with drawn:=w1.drawn+1,heap:=w1.heap.push (.cells (JO s cap) e ((JO s cap).size,(JO s cap).size+1)) }:=by
      simp [Qjs,choose,newObj,Sem.run,Question.forced,hcap,Bind.bind,Sem.bind,Pure.pure]
    simp only [execOp,hx,Sem.run_bind,hrun,hr2,Result.andThen,Sem.run_pure,effR];refine h _ _ (e1.trans ⟨rfl,rfl,rfl,by simp,fun b hb _=>by grind⟩) ?_;refine .inr ⟨w1.heap.size,0,cap,JO s cap,e,((JO s cap).size,(JO s cap).size+1),by rw [Zu],by simp,fun x hx e=>?_,by grind [Zu],hcb.2,?_,?_⟩
    · have:=hlt x hx _ e;have:=e1.size;omega
    · simp_all [JO,Rep.n,U8]
    grind [Zu,QIy]
  · cases hs
end
end Go.Gw

end
section
set_option linter.unusedSectionVars false
namespace Go.Gw
open Go
section
variable {P:Program} [JD P] {n:Nat} {ρ:Env} {w:World}
variable {d:Option Nat} {t T U:TypeId} {p:String} {af:Array Edge} {gu:Option (Nat×Bool)} {x y z:Operand}

def cutf (v:Value) (hi k:Nat):Value:=match v with
 | .slice a _ _=>.slice (if hi=0 then a else a.map (·.add (0 * k))) hi hi
 | v=>v
def Qkf (v:Value):Prop:=∃ a k,v=.slice a k k

theorem SlRd.cutF {α:Type} [Rep α] {L:List Value} {w:World} {v:Value} {xs ys:List α} {hi:Int} (hs:SlRd L w v xs) (hc:Gw.cut xs 0 hi=some ys):SlRd L w (cutf v hi.toNat (Rep.n α)) ys:=by
  obtain ⟨h0,h1,h2,rfl⟩:=Qbe hc;have hk:hi.toNat<=xs.length:=by omega
  rcases hs with ⟨a0,rfl,rfl⟩ | ⟨b,off,cap,cur,e,fz,rfl,hb,hA,h4,h5,h6,h7⟩
  · have:hi=0:=by grind
    subst this;exact .inl ⟨a0,by rfl,by simp⟩
  · have hlen:((xs.take hi.toNat).drop (0:Int).toNat).length=hi.toNat:=by simp;omega
    have ht:(xs.take hi.toNat).drop (0:Int).toNat=xs.take hi.toNat:=by simp
    have hmul:=Ea (Rep.n α) hk;have hmul2:=Ea (Rep.n α) h4;refine .inr ⟨b,off,hi.toNat,cur,e,fz,?_,hb,hA,by omega,by omega,by omega,?_⟩
    · simp_all [Eo,Es,YP,cutf]
    · rw [hlen,ht];refine ⟨by grind,fun i x hx=>?_⟩;have hi2:i < hi.toNat:=by
        grind
      rw [Eg hi2] at hx;have:=h7.2 i x hx;have hlt:i * Rep.n α+Rep.n α<=hi.toNat * Rep.n α:=by rw [<-En];exact Ea _ hi2
      grind [Nat.min_eq_left,List.drop_take]
theorem QZy {α:Type} [Rep α] {e:TypeId} {L:List Value} {w2:World} {v:Value} {xs ys:List α} {k k':IntKind} {hi:Int} {u:Operand} (hu:P.underlying T=some (.slice e)) (hz:Xi P e (Rep.n α)) (hs:SlRd L w2 v xs) (hc:cut xs 0 hi=some ys)
  (hx:Qm n ρ x=v) (hh:Qm n ρ z=.int k hi) (hm:Qm n ρ u=.int k' hi):Yl P n ρ ⟨d,.slice T x none (some z) (some u),t,p,af,gu⟩ w (cutf v hi.toNat (Rep.n α)):=by
 obtain ⟨h0,h1,h2,_⟩:=Qbe hc;obtain ⟨a,cap,hv,_⟩:=hs.shape;have hcap:xs.length<=cap:=by
  rcases hs with ⟨a0,rfl,rfl⟩ | ⟨b,off,cap',cur,e,fz,rfl,hb,hA,h4,_⟩
  ·simp
  simp_all
 subst hv;refine YL (X0 (J5 _ _ _ _ _)) fun w1 _=>?_;have e1:=Qdg (P:=P) (w:=w1) (k:=k') (i:=hi) (y:=cap) (c:=.slice3Acap) (by omega) (by omega);have e2:=Qdg (P:=P) (w:=w1) (k:=k) (i:=hi) (y:=hi.toNat) (c:=.slice3B) (by omega) (by omega);simp [execOp,hx,hh,hm,Instr.sliceAt,Instr.slice,run_underlying hu,Instr.sliceBounds,e1,e2,YW hz,cutf]

theorem QUw {α:Type} [Rep α] {e:TypeId} {bytes:Nat} {zz:Value} {L:List Value} {v vx:Value} {xs ys:List α}
    (hu:P.underlying T=some (.slice e)) (hi:EInfo P e (Rep.n α) bytes zz) (hr:SlRd L w v xs) (hf:Qkf v) (hs:SlRd L w vx ys) (hne:0 < ys.length)
    (hb:(xs.length+ys.length) * bytes<=140737488355328) (hm:xs.length+ys.length<=maxLen) :
    ∃ v' w',(Builtin.append_ #[T,T] t #[v,vx]).run P w=.ok v' w'/\Ext w w'/\(∀ b,Qu v'=some b->w.heap.size<=b)/\Own e (v'::L) w' v' (xs++ys):=by
  obtain ⟨i,h1,h2,h3,h4,h5,h6⟩:=hi.ex;rcases hs with ⟨a0,rfl,rfl⟩ | ⟨b,off,cap,cur,e',fz,rfl,hblk,hA,hcap,hcm,hsz,hely⟩
  · simp at hne
  have hnl:(((cur.toList.drop off).take (ys.length * Rep.n α))).length=ys.length * Rep.n α:=hely.1;have hnews:∀ j u,((cur.toList.drop off).take (ys.length * Rep.n α))[j]?=some u->w.cell? ((⟨b,off,none⟩:Addr).add j)=some u:=fun j u hu=>by
    grind [World.cell?,Eg,Rep.n,Et,Ep,YP]
  -- what lies there
  obtain ⟨olds,hol,hoe⟩:∃ olds:List Value,olds.length=xs.length * Rep.n α/\Elems L w olds xs:=by
    rcases hr with ⟨a0,rfl,rfl⟩ | ⟨_,_,_,_,_,_,_,_,_,_,_,_,h7⟩
    · simp_all [Elems.nil]
    · exact ⟨_,h7.1,h7⟩
  have grown : ∀ (olds : List Value), olds.length = xs.length * Rep.n α -> Elems L w olds xs -> (Builtin.append_ #[T, T] t #[v, .slice (some ⟨b, off, none⟩) ys.length cap]).run P w = .ok (.slice (some ⟨w.heap.size, 0, none⟩) (xs.length + ys.length) (grownCap w (xs.length + ys.length) xs.length e)) (w.drew.alloc (.cells (olds.toArray ++ ((cur.toList.drop off).take (ys.length * Rep.n α)).toArray ++ Builtin.zeroCells zz.cells (grownCap w (xs.length + ys.length) xs.length e - (xs.length + ys.length))) e)) ->
      ∃ v' w',(Builtin.append_ #[T,T] t #[v,.slice (some ⟨b,off,none⟩) ys.length cap]).run P w=.ok v' w'/\Ext w w'/\(∀ b,Qu v'=some b->w.heap.size<=b)/\Own e (v'::L) w' v' (xs++ys):=fun olds hol hoe hr=>by
    have hge:=grownCap_ge w (xs.length+ys.length) xs.length e;have hcm:grownCap w (xs.length+ys.length) xs.length e<=maxLen:=grownCap_le_maxLen w _ _ e hm;have hE:Ext w (w.drew.alloc (.cells (olds.toArray++((cur.toList.drop off).take (ys.length * Rep.n α)).toArray++Builtin.zeroCells zz.cells (grownCap w (xs.length+ys.length) xs.length e - (xs.length+ys.length))) e)) :=
      ⟨rfl,rfl,rfl,by simp,fun k hk _=>heap_alloc_old w.drew _ hk⟩
    have hfr:∀ k,Qu (.slice (some ⟨w.heap.size,0,none⟩) (xs.length+ys.length) (grownCap w (xs.length+ys.length) xs.length e))=some k->w.heap.size<=k:=fun k hk=>by grind [Qu]
    have hlen:(olds++((cur.toList.drop off).take (ys.length * Rep.n α))).length=(xs.length+ys.length) * Rep.n α:=by grind
    refine ⟨_,_,hr,hE,hfr,olds++((cur.toList.drop off).take (ys.length * Rep.n α)),⟨by simp_all,.inr ⟨w.heap.size,_,_,by simp,Eu _,heap_alloc_new w.drew _,by simp_all,hcm,?_,?_⟩⟩,?_⟩
    · simp only [Array.size_append,List.size_toArray,size_zeroCells,h5,hol,hnl,<-Nat.add_mul];simp_all
    · grind
    · exact (hoe.append hely).step (Stepp.add _ hE hfr)
  obtain ⟨a,k,hv⟩:=hf;rcases hr with ⟨a0,rfl,rfl⟩ | ⟨b2,off2,cap2,cur2,e2,fz2,rfl,hblk2,hA2,hcap2,hcm2,hsz2,hely2⟩
  · refine grown [] (by simp) Elems.nil ?_;cases a0 with
    | none =>
      have hr:=run_append_nil (P:=P) w T t e i zz hu h1 h4 ⟨b,off,none⟩ ys.length cap _ (by simp_all) hnews hne (by simp only [List.length_nil,Nat.zero_add] at hm;grind [maxLen]) (by grind);simpa using hr
    | some a0 =>
      have hr:=run_append_grow (P:=P) w T t e i zz hu h1 h4 a0 0 0 [] (by simp) (fun j v hv=>by simp at hv) ⟨b,off,none⟩ ys.length cap _ (by simp_all) hnews (by omega) (by simp only [List.length_nil,Nat.zero_add] at hm;grind [maxLen]) (growslice_fits (by omega) (by grind));omega
  · cases hv;have holds:∀ j u,((cur2.toList.drop off2).take (xs.length * Rep.n α))[j]?=some u->w.cell? ((⟨b2,off2,none⟩:Addr).add j)=some u:=fun j u hu=>by
      grind [World.cell?,Eg,Rep.n,Et,Ep,YP]
    refine grown _ hely2.1 hely2 ?_;exact run_append_grow (P:=P) w T t e i zz hu h1 h4 ⟨b2,off2,none⟩ xs.length xs.length _ (by grind) holds ⟨b,off,none⟩ ys.length cap _ (by simp_all) hnews (by omega) (by grind [maxLen]) (growslice_fits (by omega) (by simp_all))

theorem QUy {α:Type} [Rep α] {e:TypeId} {bytes:Nat} {zz:Value} {L:List Value} {v vx:Value}
  (hu:P.underlying T=some (.slice e)) (hi:EInfo P e (Rep.n α) bytes zz) (hf:Qkf v) (hs:SlRd L w vx ([]:List α)):(Builtin.append_ #[T,T] t #[v,vx]).run P w=.ok v w:=by
 obtain ⟨i,h1,h2,h3,h4,h5,h6⟩:=hi.ex;obtain ⟨av,k,rfl⟩:=hf;obtain ⟨a0,c,rfl,_⟩:=hs.shape;have hl0:∀ a:Addr,(loadCells a 0).run P w=.ok #[] w:=fun a=>run_loadCells_list (P:=P) w a [] (fun j v hv=>by simp at hv)
 simp [Builtin.append_,run_underlying hu,sizeOf,typeInfo,h1,Builtin.lenOf,Builtin.firstCells];cases av<;>cases a0<;>simp [storeCells,hl0]
theorem Zd {α:Type} [Rep α] {e:TypeId} {bytes:Nat} {zz:Value} {L:List Value} {v vx:Value} {xs ys zs:List α} {K:Value->World->Prop} {aT:Array TypeId}
  (hu:P.underlying T=some (.slice e)) (hi:EInfo P e (Rep.n α) bytes zz) (hbm:Eb bytes 65536=true) (hT:aT=#[T,T]) (hx:Qm n ρ x=v) (hy:Qm n ρ y=vx) (hown:Own e (v::L) w v xs) (hf:Qkf v) (hs:SlRd (v::L) w vx ys)
  (hz:app xs ys=some zs)
  (h:∀ v' w',Ext w w'->(∀ b,Qu v'=some b->Qu v=some b\/w.heap.size<=b)->Own e (v'::L) w' v' zs->K v' w'):Eff P ⟨d,.call ⟨.builtin .append,#[x,y],aT⟩,t,p,af,gu⟩ n ρ w K:=by
 subst hT;obtain ⟨hb,rfl⟩:=Qwx hz;have hbm:bytes<=65536:=by simpa using hbm
 have:(xs.length+ys.length) * bytes<=1073741824 * 65536:=Ek hb hbm;have e0:execOp (Qm n ρ) ⟨d,.call ⟨.builtin .append,#[x,y],#[T,T]⟩,t,p,af,gu⟩=(Builtin.append_ #[T,T] t #[v,vx] >>= fun v=>Pure.pure (Next.value v)):=by
  simp [execOp,resolve,invoke,builtin,hx,hy]
 refine Ja (by grind [X0,QEc]) fun w1 e1=>?_;rw [e0];have hown1:=hown.step (Stepp.ext e1) e1 (fun _ _=>Avoids.nil _);have hs1:=hs.step (Stepp.ext e1);rcases Nat.eq_zero_or_pos ys.length with hz | hz
 ·grind [Sem.run_bind,QUy,Result.andThen,Sem.run_pure,effR,List.eq_nil_of_length_eq_zero]
 ·obtain ⟨v',w',hr,hc,hbl,ho⟩:=QCs (P:=P) (t:=t) hu hi hown1 hs1 (by omega) (by unfold maxLen;omega);obtain ⟨v2,w2,hr2,he2,_⟩:=QUw (P:=P) (t:=t) hu hi ((hown1.sub (L':=[]) (fun _ h=>by cases h)).rd (fun b _=>Avoids.nil b)) hf (hs1.sub (fun _ h=>by cases h)) hz (by omega) (by unfold maxLen;omega);rw [hr] at hr2;cases hr2;simp only [Sem.run_bind,hr,Result.andThen,Sem.run_pure,effR];exact h v' w' (e1.trans he2) (fun b hb=>(hbl b hb).imp id fun h=>Er e1.size h) ho
theorem Z9 {α:Type} [Rep α] {e:TypeId} {bytes:Nat} {z:Value} {L:List Value} {K:Value->World->Prop} (hu:P.underlying T=some (.slice e)) (hi:EInfo P e (Rep.n α) bytes z)
  (h:∀ v w',Ext w w'->(∀ b,Qu v=some b->w.heap.size<=b)->Own e (v::L) w' v ([]:List α)->Qkf v->K v w'):Eff P ⟨d,.buildSlice T 0 #[],t,p,af,gu⟩ n ρ w K :=
 Qqs (xs:=[]) (cells:=[]) hu hi (by simp) (by simp [J9,Qdm]) Elems.nil rfl fun _ w' hb he _ ho=>h _ w' he (fun k hk=>by grind [Qu]) ho ⟨_,_,rfl⟩
/-! ### Whether an own slice is nil, told by its list -/
/-! ### Pointers that lie in arrays; loops of few rounds -/
theorem Ys {a:Addr} (hx:Qm n ρ x=.pointer (some a)):Yl P n ρ ⟨d,.nilCheck x,t,p,af,gu⟩ w (.pointer (some a)):=Ym fun w es=>by
 simp_all [execOp]
theorem Qph {m e:Nat} {k:IntKind} {i:Int} {cs:List Value} {v:Value} (hu:P.underlying T=some (.array m e)) (hs:YO P e) (hz:Xi P e 1) (h0:0<=i) (h1:i < m) (hx:Qm n ρ x=.agg cs.toArray) (hy:Qm n ρ y=.int k i)
  (hv:cs[i.toNat]?=some v):Yl P n ρ ⟨d,.index T x y,t,p,af,gu⟩ w v:=by
 refine YL (X0 (Qvl _ _ _)) fun w1 _=>?_;have hp:(part e cs.toArray (i.toNat * 1)).run P w1=.ok v w1:=QVb hs (by simp_all);simp [execOp,hx,hy,Instr.index,asIntOf,run_underlying hu,h0,h1,YW hz] at hp ⊢;simp [hp]
theorem Qbr {s q:TypeId} {i j:Int} {b:Bool} (hb:decide (i < j)=b) (hx:Qm n ρ x=.int .i64 i) (hy:Qm n ρ y=.int .i64 j):Yl P n ρ ⟨d,.binOp .lss s x y q,t,p,af,gu⟩ w (.bool b):=hb▸Xc hx hy
theorem Qet {s q:TypeId} {i j r:Int} (hb:w64 (i+j)=r) (hx:Qm n ρ x=.int .i64 i) (hy:Qm n ρ y=.int .i64 j):Yl P n ρ ⟨d,.binOp .add s x y q,t,p,af,gu⟩ w (.int .i64 r):=hb▸Q6 hx hy
def unr (P:Program) [JD P] (n:Nat) (c:Code) (q:Post):Nat->Env->World->Prop
 | 0=>fun _ _=>False
 | k+1=>fun ρ w=>WC P n c ⟨unr P n c q k,q.ex,q.ret⟩ ρ w
theorem Qbq {c:Code} {q:Post} (k:Nat) (h:WC P n c ⟨unr P n c q k,q.ex,q.ret⟩ ρ w):unr P n c q (k+1) ρ w:=h
theorem Qpr {c:Code} {q:Post} (k:Nat) (h:unr P n c q k ρ w):WC P n (.loop c) q ρ w:=by
 have hi:∀ k,YF (fun i:Nat=>match i with | 0=>some (.inr ()) | i+1=>some (.inl (β:=Unit) i)) (k+1) k=some ():=by
  intro k
  induction k with
  | zero=>rfl
  | succ k ih=>exact ih
 refine Qwm (fun s ρ w=>unr P n c q s ρ w) (hi k) h fun s ρ w hI=>?_;cases s with
 | zero=>exact hI.elim
 | succ s=>exact ⟨fun s' hs=>by cases hs;exact hI,fun hs=>nomatch hs⟩
theorem QIo {α:Type} [Rep α] {e:TypeId} {L:List Value} {v:Value} {xs:List α} {i:Int} {el y':α} {off:Nat} {u:Value} {K:Value->World->Prop} (hs:Xi P T u.cells.size) (hown:Own e L w v xs) (hv:v∈L) (hel:idx xs i=some el)
    (hx:Qm n ρ x=.pointer (some ((ZE v i.toNat (Rep.n α)).add off))) (hy:Qm n ρ y=u) (hl:off+u.cells.size<=Rep.n α) (h1:∀ c∈u.cells.toList,c.oneCell'=true)
    (hset:∀ w',Chg [v] w w'->∀ cs,Rep.rd L w' cs el->Rep.rd L w' (YT cs off u.cells.toList) y')
    (h:∀ w',Chg [v] w w'->Own e L w' v (xs.set i.toNat y')->K undef w'):Eff P ⟨d,.store T x y,t,p,af,gu⟩ n ρ w K:=by
  refine Ja (Qvr (Qvq _ _ _)) fun w1 e1=>?_;replace hown:=hown.step (Stepp.ext e1) e1 (fun _ _=>Avoids.nil _);obtain ⟨h0,hi,h2⟩:=JG hel;obtain ⟨cells,ho,hE⟩:=hown;rcases ho.2 with ⟨_,hh⟩ | ⟨g,cap,cur,rfl,_,hg,h4,h5,hcs,htake⟩
  · omega
  · have hlen : i.toNat * Rep.n α + off + 0 + u.cells.toList.length <= cells.length := by
      have:(i.toNat+1) * Rep.n α<=xs.length * Rep.n α:=Ea _ hi;rw [En] at this;rw [hE.1];simp;omega
    obtain ⟨w',hr,ho2,hg2⟩:=Quf (P:=P) u.cells.toList (i.toNat * Rep.n α+off) 0 cells w1 ho hlen h1;have hx':Qm n ρ x=.pointer (some ⟨g,i.toNat * Rep.n α+off,none⟩):=by grind [ZE,YP]
    have hst:(Instr.storeAt T (.pointer (some ⟨g,i.toNat * Rep.n α+off,none⟩)) u).run P w1=.ok () w':=by
      simp [Instr.storeAt,Instr.sureAddr,storeVar,YW hs,hr]
    simp only [execOp,hx',hy,Sem.run_bind,hst,Result.andThen,Sem.run_pure,effR];have hc:Chg [Value.slice (some ⟨g,0,none⟩) xs.length cap] w1 w':=⟨hg2.os,hg2.tape,hg2.output,hg2.size,fun b hb hA=>hg2.block b hb (fun e=>hA _ (Ee.2 rfl) (by cases e;rfl))⟩;refine h w' ((e1.mono (fun _ h=>by cases h)).trans hc) ⟨_,by rw [List.length_set];exact ho2,?_⟩;have hE':=hE.step (Qj hc hv);refine ⟨by rw [QDc,List.length_set];exact hE.1,fun j b hb=>?_⟩;by_cases hj:j=i.toNat
    · subst hj;rw [List.getElem?_set_self hi] at hb;cases hb;rw [Nat.add_zero,QDe _ _ _ _ _ (by omega)];exact hset _ ((e1.mono (fun _ h=>by cases h)).trans hc) _ (hE'.2 _ _ h2)
    · rw [List.getElem?_set_ne (Ne.symm hj)] at hb;rw [Nat.add_zero,QDd]
      · exact hE'.2 _ _ hb
      · rcases Et j i.toNat with hlt | hge
        · left;have:(j+1) * Rep.n α<=i.toNat * Rep.n α:=Ea _ hlt
          grind
        · right;have:(i.toNat+1) * Rep.n α<=j * Rep.n α:=Ea _ (by omega)
          grind
theorem QIn {α:Type} [Rep α] {e:TypeId} {L:List Value} {v:Value} {xs:List α} {i:Int} {el y':α} {off k:Nat} {u:Value} {vs:List Value} {K:Value->World->Prop} (hs:Xi P T k) (hc:u.cells.toList=vs) (hk:vs.length=k) (hown:Own e L w v xs) (hv:v∈L) (hel:idx xs i=some el)
  (hx:Qm n ρ x=.pointer (some ((ZE v i.toNat (Rep.n α)).add off))) (hy:Qm n ρ y=u) (hl:Eb (off+k) (Rep.n α)=true) (h1:∀ c∈vs,c.oneCell'=true)
  (hset:∀ w',Chg [v] w w'->∀ cs,Rep.rd L w' cs el->Rep.rd L w' (YT cs off vs) y')
  (h:∀ w',Chg [v] w w'->Own e L w' v (xs.set i.toNat y')->K undef w'):Eff P ⟨d,.store T x y,t,p,af,gu⟩ n ρ w K:=by
 subst hc;subst hk;have e:u.cells.toList.length=u.cells.size:=by simp
 exact QIo (by trivial) hown hv hel hx hy (by simp_all) h1 hset h
theorem QT {v:Value} {b off:Nat} {cs vs:List Value} {T':TypeId} {K:Value->World->Prop} {k:Nat} (hs:Xi P T k) (hv:v.cells.toList=vs) (hk:vs.length=k) (hx:Qm n ρ x=.pointer (some ⟨b,off,none⟩)) (hy:Qm n ρ y=v)
  (hb:Box w b cs T') (hl:Eb (off+k) cs.length=true) (h1:∀ u∈vs,u.oneCell'=true) (hcs:YT cs off vs=vs)
  (h:∀ w',Chg [.pointer (some ⟨b,0,none⟩)] w w'->Box w' b vs T'->K undef w'):Eff P ⟨d,.store T x y,t,p,af,gu⟩ n ρ w K:=Y2 hs hv hk hx hy hb hl h1 hcs h
theorem QU (w:World):Ext w w:=Chg.refl _ _
structure Way (L0:List Value) (w0:World) (L:List Value) (w:World):Prop where
 s:Stepp L0 w0 L w
theorem Way.refl (L:List Value) (w:World):Way L w L w:=⟨Stepp.sub w fun _ h=>h⟩
theorem Way.step {L0 L L':List Value} {w0 w w':World} (h:Way L0 w0 L w) (s:Stepp L w L' w'):Way L0 w0 L' w':=⟨h.s.trans s⟩
theorem Way.ext {L0 L:List Value} {w0 w w':World} (h:Way L0 w0 L w) (e:Ext w w'):Way L0 w0 L w':=h.step (Stepp.ext e)
theorem Way.sub {L0 L L':List Value} {w0 w:World} (h:Way L0 w0 L w) (hs:∀ x∈L',x∈L):Way L0 w0 L' w:=h.step (Stepp.sub w hs)
theorem SlRd.way {α:Type} [Rep α] {L0 L:List Value} {w0 w:World} {v:Value} {xs:List α} (h:SlRd L0 w0 v xs) (s:Way L0 w0 L w):SlRd L w v xs:=h.step s.s
theorem Rep.rd.way {α:Type} [Rep α] {L0 L:List Value} {w0 w:World} {cs:List Value} {a:α} (h:Rep.rd L0 w0 cs a) (s:Way L0 w0 L w):Rep.rd L w cs a:=Rep.step s.s h
theorem Way.way {L0 L1 L:List Value} {w0 w1 w:World} (h:Way L0 w0 L1 w1) (s:Way L1 w1 L w):Way L0 w0 L w:=h.step s.s
end
end Go.Gw

end
section
set_option linter.unusedSectionVars false
namespace Go.Gw
open Go
section
variable {α:Type} [Rep α] {L L':List Value} {w w':World} {b:Nat} {d:α} {v:Value} {o:Option α}
def PtAt (L:List Value) (w:World) (b:Nat) (d:α):Prop:=∃ (cs:List Value) (T:TypeId) (fz:Nat×Nat),w.heap[b]?=some (.cells cs.toArray T fz)/\Avoids L b/\Rep.rd L w cs d
theorem PtAt.step (h:PtAt L w b d) (s:Stepp L w L' w'):PtAt L' w' b d:=by
 obtain ⟨cs,T,fz,h1,h2,h3⟩:=h;obtain ⟨⟨fz',h4⟩,h5⟩:=s.keeps h1 h2;exact ⟨cs,T,fz',h4,h5,Rep.step s h3⟩
theorem PtAt.ext (h:PtAt L w b d) (e:Ext w w'):PtAt L w' b d:=h.step (Stepp.ext e)
theorem PtAt.at (h:PtAt L w b d):∃ cs,At w ⟨b,0,none⟩ cs/\Rep.rd L w cs d:=by
 obtain ⟨cs,T,fz,h1,_,h3⟩:=h
 grind [At.of_block]
def PtRd (L:List Value) (w:World) (v:Value):Option α->Prop
 | none=>v=.pointer none
 | some d=>∃ b,v=.pointer (some ⟨b,0,none⟩)/\PtAt L w b d
theorem PtRd.step (h:PtRd L w v o) (s:Stepp L w L' w'):PtRd L' w' v o:=by
 cases o with
 | none=>exact h
 | some d=>obtain ⟨b,h1,h2⟩:=h;exact ⟨b,h1,h2.step s⟩
theorem PtRd.ext (h:PtRd L w v o) (e:Ext w w'):PtRd L w' v o:=h.step (Stepp.ext e)
theorem PtRd.sub (h:PtRd L w v o) (hs:∀ x∈L',x∈L):PtRd L' w v o:=h.step (Stepp.sub w hs)
theorem PtRd.way {L0:List Value} {w0:World} (h:PtRd L0 w0 v o) (s:Way L0 w0 L w):PtRd L w v o:=h.step s.s
theorem PtRd.one1 (h:PtRd L w v o):v.oneCell'=true:=by
 cases o with
 | none=>cases h;rfl
 | some d=>obtain ⟨b,rfl,_⟩:=h;rfl
theorem PtRd.nil (L:List Value) (w:World):PtRd L w (.pointer none) (none:Option α):=rfl
theorem PtRd.is (h:PtRd L w v (some d)):∃ b,v=.pointer (some ⟨b,0,none⟩)/\PtAt L w b d:=h
theorem PtRd.of_box {cs:List Value} {T:TypeId} (h:Box w b cs T) (hA:Avoids L b) (hr:Rep.rd L w cs d):PtRd L w (.pointer (some ⟨b,0,none⟩)) (some d):=⟨b,rfl,cs,T,(0,0),h,hA,hr⟩
theorem Qbx {b2 b:Nat} (h:b2≠b):Qu (.pointer (some ⟨b2,0,none⟩))≠some b:=fun e=>h (by grind [Qu])
theorem PtRd.get (h:PtRd L w v o) {r:α} (ho:o=some r):∃ b,v=.pointer (some ⟨b,0,none⟩)/\PtAt L w b r:=by subst ho;exact h
end
instance {α:Type} [Rep α]:Rep (Option α):=⟨1,fun L w cs o=>∃ v,PtRd L w v o/\cs=[v],fun ⟨v,_,h⟩=>by subst h;rfl,fun ⟨v,h1,h⟩ u hu=>by subst h;rw [Ee.1 hu];exact h1.one1,fun s ⟨v,h1,h⟩=>⟨v,h1.step s,h⟩⟩
section
variable {P:Program} [JD P] {n:Nat} {ρ:Env} {w:World} {d:Option Nat} {t T U:TypeId} {p:String} {af:Array Edge} {gu:Option (Nat×Bool)} {x y:Operand}
theorem Zj {v:Value} {b:Nat} (hv:v=.pointer (some ⟨b,0,none⟩)) (hx:Qm n ρ x=v):Yl P n ρ ⟨d,.nilCheck x,t,p,af,gu⟩ w (.pointer (some ⟨b,0,none⟩)):=Ys (hx.trans hv)
/-! ### A slice of zero structs -/
theorem Qst (z:Array Value) (m:Nat) (hz:0 < z.size):(madeCells z (m * z.size)).toList=(Ec m z.toList).flatten:=by
 unfold madeCells;simp only [Array.toList_map,Array.toList_range]
 induction m with
 | zero=>simp
 | succ m ih =>
  rw [En,Nat.add_comm,List.range_add,List.map_append,List.map_map,Eh,List.flatten_cons,<-ih];congr 1
  ·apply List.ext_getElem
   ·simp
   grind [Nat.mod_eq_of_lt]
  simp
theorem Elems.rep {α:Type} [Rep α] {L:List Value} {w:World} {cs:List Value} {zero:α} (hz:Rep.rd L w cs zero):∀ m:Nat,Elems L w (Ec m cs).flatten (Ec m zero)
 | 0=>Elems.nil
 | m+1=>by
  rw [Eh,Eh,List.flatten_cons];exact Elems.cons hz (Elems.rep hz m)
theorem Qye {α:Type} [Rep α] {e:TypeId} {bytes s:Nat} {c:Value} {zcs:List Value} {L:List Value} {i:Int} {zero:α} {xs:List α} {k k':IntKind} {K:Value->World->Prop} (hs:Rep.n α=s) (h0s:Eb 1 s=true) (h1s:Eb s 16=true) (hu:P.underlying T=some (.slice e)) (hi:EInfo P e s bytes c) (hcc:c.cells=zcs.toArray) (hcl:zcs.length=s)
    (hbm:Eb bytes 65536=true) (hz:∀ L w,Rep.rd L w zcs zero) (hx:Qm n ρ x=.int k i) (hy:Qm n ρ y=.int k' i) (hm:mk i zero=some xs)
    (h:∀ v w',Ext w w'->(∀ b,Qu v=some b->w.heap.size<=b)->Own e (v::L) w' v xs->K v w'):Eff P ⟨d,.makeSlice T x y,t,p,af,gu⟩ n ρ w K:=by
  obtain ⟨h0,hmax,rfl⟩:=Qmv hm;obtain ⟨ti,g1,g2,g3,g4,_,_⟩:=hi.ex;have hbm:bytes<=65536:=by simpa using hbm
  have h0s:1<=s:=by trivial
  have h1s:s<=16:=by simpa using h1s
  obtain ⟨m,rfl⟩:∃ m:Nat,i=(m:Int):=⟨i.toNat,by omega⟩;have hmm:m<=1048576:=by omega
  have hb:ti.bytes * m<=281474976710656:=by
    rw [g3]
    calc bytes * m<=65536 * 1048576:=Ek hbm hmm
      _<=_:=by decide
  have hms:m * s<=16777216:=Er (Ek hmm h1s) (by decide);refine Ja (X0 (Qvo _ _ _)) fun w1 e1=>?_;obtain ⟨w',hr,ho,hg⟩:=run_makeSlice_full (P:=P) (w:=w1) 0 T e ti c s hu g1 g4 g2 k k' m (by omega) hb (by unfold maxLen;omega) (Eu _);have he:Ext w1 w':=⟨hg.os,hg.tape,hg.output,hg.size,fun b hb _=>hg.block b hb (fun e=>by cases e)⟩;simp only [execOp,hx,hy,Sem.run_bind,hr,Result.andThen,Sem.run_pure,effR];refine h _ w' (e1.trans he) (fun b hb=>by have:=e1.size;grind [Qu]) ⟨(madeCells c.cells (m * s)).toList,?_,?_⟩
  · simp_all
  grind [Qst,Int.toNat_natCast,Elems.rep]
theorem Q0s {e m h:Nat} {a:Addr} {v:Value} {k:IntKind} (hu:P.underlying T=some (.array m e)) (hs:Xi P e 1) (hm:Nat.blt 0 m=true) (hh:Eb h m=true) (hx:Qm n ρ x=.pointer (some a)) (hy:Qm n ρ y=.int k (h:Int))
  (hv:v=.slice (some (a.add (0 * 1))) h m):Yl P n ρ ⟨d,.slice T x none (some y) none,t,p,af,gu⟩ w v:=by
 subst hv;have hm:0 < m:=by simp_all
 have hh:h<=m:=by simpa using hh
 have h0:¬ m=0:=by omega
 exact YL (X0 (J5 _ _ _ _ _)) fun w1 _=>by simp [execOp,hx,hy,Instr.sliceAt,run_underlying hu,Instr.sureAddr,Instr.sliceBounds,Instr.sliceBound,asIntOf,YW hs,h0,hh]
theorem Q0h {α:Type} [Rep α] {m e s:Nat} {k:IntKind} {i:Int} {el:α} {xs:List α} {cs ds:List Value} (hu:P.underlying T=some (.array m e)) (hs:Aggr P e s) (hz:Xi P e s) (hn:Rep.n α=s) (hE:Elems [] w cs xs) (hl:xs.length=m) (hx:Qm n ρ x=.agg cs.toArray) (hy:Qm n ρ y=.int k i)
  (h:idx xs i=some el) (hd:∀ c,Rep.rd [] w c el->c=ds):Yl P n ρ ⟨d,.index T x y,t,p,af,gu⟩ w (.agg ds.toArray):=by
 obtain ⟨h0,h1,h2⟩:=JG h;have h1':i < (m:Int):=by omega
 have he:=hd _ (hE.2 _ _ h2);rw [hn] at he;refine YL (X0 (Qvl _ _ _)) fun w1 _=>?_;have hp:(part e cs.toArray (i.toNat * s)).run P w1=.ok (.agg ds.toArray) w1:=QVa hs he;simp [execOp,hx,hy,Instr.index,asIntOf,run_underlying hu,h0,h1',YW hz] at hp ⊢;simp [hp]
theorem QZw {e m s b:Nat} {k:IntKind} {hi:Int} (hu:P.underlying T=some (.array m e)) (hs:Xi P e s) (hm:Nat.blt 0 m=true) (hx:Qm n ρ x=.pointer (some ⟨b,0,none⟩)) (hy:Qm n ρ y=.int k hi) (h0:0<=hi) (h1:hi<=m) :
  Yl P n ρ ⟨d,.slice T x none (some y) none,t,p,af,gu⟩ w (Yf (.slice (some ⟨b,0,none⟩) m m) 0 hi.toNat s):=by
 have hm:0 < m:=by simp_all
 have h:¬ m=0:=by omega
 exact YL (X0 (J5 _ _ _ _ _)) fun w1 _=>by simp [execOp,hx,hy,Instr.sliceAt,run_underlying hu,Instr.sureAddr,Instr.sliceBounds,Instr.sliceBound,asIntOf,YW hs,h,h0,h1,Yf,Addr.add]
theorem QZx {e m s b:Nat} {k:IntKind} {lo:Int} (hu:P.underlying T=some (.array m e)) (hs:Xi P e s) (hx:Qm n ρ x=.pointer (some ⟨b,0,none⟩)) (hy:Qm n ρ y=.int k lo) (h0:0<=lo) (h1:lo<=m) :
  Yl P n ρ ⟨d,.slice T x (some y) none none,t,p,af,gu⟩ w (Yf (.slice (some ⟨b,0,none⟩) m m) lo.toNat m s):=by
 by_cases h:m=lo.toNat
 ·exact YL (X0 (J5 _ _ _ _ _)) fun w1 _=>by simp [execOp,hx,hy,Instr.sliceAt,run_underlying hu,Instr.sureAddr,Instr.sliceBounds,Instr.sliceBound,asIntOf,YW hs,<-h,h0,h1,Yf,Addr.add]
 ·exact YL (X0 (J5 _ _ _ _ _)) fun w1 _=>by simp [execOp,hx,hy,Instr.sliceAt,run_underlying hu,Instr.sureAddr,Instr.sliceBounds,Instr.sliceBound,asIntOf,YW hs,h,h0,h1,Yf,Addr.add]
theorem SlRd.of_boxE {α:Type} [Rep α] {b m:Nat} {xs:List α} {cs:List Value} {T':TypeId} {L:List Value} (hb:Box w b cs T') (hA:Avoids L b) (hE:Elems L w cs xs) (hl:xs.length=m) (hm:Eb m 1048576=true):SlRd L w (.slice (some ⟨b,0,none⟩) m m) xs:=by
 subst hl;have hm:xs.length<=1048576:=by simpa using hm
 have h1:=hE.1;refine .inr ⟨b,0,xs.length,cs.toArray,T',(0,0),rfl,hb,hA,Nat.le_refl _,by unfold maxLen;omega,by simp_all,?_⟩
 grind
end
end Go.Gw

end
section
set_option linter.unusedSectionVars false
set_option linter.unusedVariables false
namespace Go.Gw
open Go
structure Opq where mk ::
 deriving DecidableEq,Inhabited
def OpqRd (L:List Value) (w:World) (v:Value) (o:Opq):Prop:=v.oneCell'=true
section
variable {L L':List Value} {w w':World} {v:Value} {o:Opq}
theorem OpqRd.step (h:OpqRd L w v o) (s:Stepp L w L' w'):OpqRd L' w' v o:=h
theorem OpqRd.ext (h:OpqRd L w v o) (e:Ext w w'):OpqRd L w' v o:=h
theorem OpqRd.one1 (h:OpqRd L w v o):v.oneCell'=true:=h
end
end Go.Gw

end
