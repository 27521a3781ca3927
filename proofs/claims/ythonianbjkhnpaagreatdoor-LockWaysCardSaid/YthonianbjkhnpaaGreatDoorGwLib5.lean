/- Laws of the walk. Condition: each theorem says its own. -/
import Derived.Test.YthonianbjkhnpaaGreatDoorGwCore
import Derived.KernelRfl
import Derived.Laws.OwnMore
import Derived.Laws.CopyRow
import Derived.Laws.ByValue
import Derived.WalkSpells
import Derived.Laws.BytesString
set_option linter.unusedVariables false
set_option linter.unusedSimpArgs false
set_option linter.unusedSectionVars false
open Nat renaming mul_le_mul_right→Ea,ble→Eb,mul_one→Ef,mul_le_mul→El,le_trans→Eo,succ_mul→Ep,lt_or_ge→Er,zero_mul→Eu,add_zero→Ev,zero_le→Ew
open List renaming getElem?_take_of_lt→Ec,replicate→Ed,mem_singleton→Eg,getElem?_eq_some_iff→Eh,replicate_succ→Ei,getElem?_eq_none→Ej,drop_eq_getElem_cons→Ek,getElem?_map→Em,mem_cons_of_mem→En,map_map→Et,map→Ex
open Option renaming map_eq_some_iff→Ee,map_some→Es
section
set_option linter.unusedSectionVars false
namespace Go.Gw
open Go

abbrev w64 (x:Int):Int:=IntKind.wrap .i64 x

theorem X4 {α:Type} {b:Bool} {x y z:α} (hb:b=true) (h:cond b x y=z):x=z:=by simp_all
theorem Qge {α:Type} {b:Bool} {x y z:α} (hb:b=false) (h:cond b x y=z):y=z:=by simp_all
theorem Qdm {α β:Type} {e:Option α} {f:α->Option β} {r:β} (h:e.bind f=some r):∃ x,e=some x/\f x=some r:=by
 cases e with
 | none=>cases h
 | some x=>simp_all

noncomputable def loop {σ β:Type} (step:σ->Option (σ⊕β)) (s:σ):Option β :=
 match Zh step 300 s with
 | some o=>some o
 | none=>open Classical in if h:∃ o,∃ k,Zh step k s=some o then some (Classical.choose h) else none

theorem Qsn {σ β:Type} {step:σ->Option (σ⊕β)}:∀ {k k':Nat} {s:σ} {o o':β},Zh step k s=some o->Zh step k' s=some o'->o=o'
 | 0,_,_,_,_,h,_=>by cases h
 | _+1,0,_,_,_,_,h=>by cases h
 | k+1,k'+1,s,o,o',h,h'=>by
  simp only [Zh] at h h';cases hs:step s with
  | none=>simp [hs] at h
  | some x =>
   cases x with
   | inl s'=>simp only [hs] at h h';exact Qsn h h'
   | inr b=>simp only [hs] at h h';cases h;cases h';rfl

theorem loop_iff {σ β:Type} {step:σ->Option (σ⊕β)} {s:σ} {o:β}:loop step s=some o↔∃ k,Zh step k s=some o:=by
 classical
 unfold loop;cases h3:Zh step 300 s with
 | some o'=>exact ⟨fun h=>⟨300,h3.trans h⟩,fun ⟨k,hk⟩=>congrArg some (Qsn h3 hk)⟩
 | none =>
  constructor
  ·intro h;simp only at h;split at h
   ·grind
   ·cases h
  ·rintro ⟨k,hk⟩;have hh:∃ o,∃ k,Zh step k s=some o:=⟨o,k,hk⟩;simp only;rw [dif_pos hh]
   grind [Qsn,Classical.choose_spec]

theorem JC {σ β:Type} {step:σ->Option (σ⊕β)} {s s':σ} (h:step s=some (.inl s')):loop step s=loop step s':=by
 apply Option.ext;intro o;rw [loop_iff,loop_iff];constructor
 ·rintro ⟨k,hk⟩;cases k with
  | zero=>cases hk
  | succ k=>grind [Zh]
 ·rintro ⟨k,hk⟩;exact ⟨k+1,by grind [Zh]⟩
theorem ZE {σ β:Type} {step:σ->Option (σ⊕β)} {s:σ} {o:β} (h:step s=some (.inr o)):loop step s=some o:=by
 rw [loop_iff];exact ⟨1,by simp only [Zh,h]⟩

section
variable {P:Program} [JD P] {n:Nat} {q:Post} {ρ:Env} {w:World}

theorem QHp {c:Code} {σ β:Type} {step:σ->Option (σ⊕β)} {s:σ} {o:β} (I:σ->Env->World->Prop) (h:loop step s=some o) (h0:I s ρ w)
  (round:∀ s ρ w,I s ρ w->∀ x,step s=some x->(∀ y,x=.inr y->y=o)->WC P n c ⟨fun ρ w=>∃ s',x=.inl s'/\I s' ρ w,q.ex,q.ret⟩ ρ w):WC P n (.loop c) q ρ w:=by
 obtain ⟨k,hk⟩:=loop_iff.1 h;refine Qxk (step:=step) (k:=k) (s:=s) (o:=o) I hk h0 fun s ρ w hI=>⟨fun s' hs=>?_,fun hs=>?_⟩
 ·exact (round s ρ w hI _ hs (fun y hy=>by cases hy)).mono (fun ρ w ⟨s'',he,hI'⟩=>by simp_all) (fun _ _ _ h=>h) (fun _ _ h=>h)
 grind

theorem Qcn {ops:Array Oper} {K:Env->World->Prop} {o:Oper} {os:List Oper} (b:Bool) (V:Value) (hw:XU ops o n ρ=b) (ht:b=true->Eff P o n ρ w (fun v w'=>v=V/\Ext w w'))
    (h:∀ w',Ext w w'->T0 P n ops K os (Xv ρ o.dst (gd b V)) w'):T0 P n ops K (o::os) ρ w :=
  Qxf b hw (fun hb=>(ht hb).mono fun v w' ⟨hv,he⟩=>by grind [Qm])
    (fun hb=>by grind [Qja,Chg.refl])
section ev
variable {x1 x2 x3 x4 x5 x6 x7 x8:Operand} {v1 v2 v3 v4 v5 v6 v7 v8:Value}
theorem ev0:((#[]:Array Operand).map (Qr n ρ)).toList=[]:=by simp
theorem QO (h1:Qr n ρ x1=v1):(#[x1].map (Qr n ρ)).toList=[v1]:=by grind
theorem Q2 (h1:Qr n ρ x1=v1) (h2:Qr n ρ x2=v2):(#[x1,x2].map (Qr n ρ)).toList=[v1,v2]:=by simp_all
theorem YA (h1:Qr n ρ x1=v1) (h2:Qr n ρ x2=v2) (h3:Qr n ρ x3=v3):(#[x1,x2,x3].map (Qr n ρ)).toList=[v1,v2,v3]:=by simp_all
theorem JU (h1:Qr n ρ x1=v1) (h2:Qr n ρ x2=v2) (h3:Qr n ρ x3=v3) (h4:Qr n ρ x4=v4):(#[x1,x2,x3,x4].map (Qr n ρ)).toList=[v1,v2,v3,v4]:=by simp_all
theorem ev5 (h1:Qr n ρ x1=v1) (h2:Qr n ρ x2=v2) (h3:Qr n ρ x3=v3) (h4:Qr n ρ x4=v4) (h5:Qr n ρ x5=v5):(#[x1,x2,x3,x4,x5].map (Qr n ρ)).toList=[v1,v2,v3,v4,v5]:=by simp_all
end ev

variable {d:Option Nat} {t T U:TypeId} {p:String} {af:Array Edge} {gu:Option (Nat×Bool)} {x y z:Operand}
theorem Jb {fs:Array Field} {i:Nat} {f:Field} {a:Addr} {v:Value} (off:Nat) (hu:P.underlying T=some (.struct fs)) (hf:fs[i]?=some f) (ho:f.offset=off) (hs:∃ k,Xr P f.type (k+1)) (hx:Qr n ρ x=.pointer (some a))
  (hv:v=.pointer (some (a.add off))):Yl P n ρ ⟨d,.fieldAddr T x i,t,p,af,gu⟩ w v:=by
 grind [Q0w]

theorem Qfm {a:Addr} {cs:List Value} (hT:Aggr P T cs.length) (hat:At w a cs):∀ w1,Rel w w1->(loadVar T a).run P w1=.ok (.agg cs.toArray) w1:=fun w1 r=>by
 simp [loadVar,QEm hT,Zs hT.size,run_loadCells_list w1 a cs (At.ext r.ext hat).2]
def LtL (L:List Value) (w:World):Prop:=∀ h∈L,∀ b,Qq h=some b->b < w.heap.size
theorem LtL.chg {L H:List Value} {w w':World} (h:LtL L w) (c:Chg H w w'):LtL L w':=fun x hx b hb=>Nat.lt_of_lt_of_le (h x hx b hb) c.size
theorem LtL.nil (w:World):LtL [] w:=fun _ h=>by cases h
theorem LtL.cons {L:List Value} {w:World} {v:Value} (h:LtL L w) (hv:∀ b,Qq v=some b->b < w.heap.size):LtL (v::L) w:=fun x hx b hb=>by
 rcases List.mem_cons.1 hx with rfl | hx
 ·grind
 ·exact h x hx b hb

theorem Own.sub {α:Type} [Rep α] {e:TypeId} {L L':List Value} {v:Value} {xs:List α} (h:Own e L w v xs) (hs:∀ x∈L',x∈L):Own e L' w v xs:=h.step (Stepp.sub w hs) (Chg.refl [] w) (fun _ _=>Avoids.nil _)
theorem SlRd.sub {α:Type} [Rep α] {L L':List Value} {v:Value} {xs:List α} (h:SlRd L w v xs) (hs:∀ x∈L',x∈L):SlRd L' w v xs:=h.step (Stepp.sub w hs)
theorem Own.rdL {α:Type} [Rep α] {e:TypeId} {L L0:List Value} {w0:World} {v:Value} {xs:List α} (h:Own e L w v xs) (hs:∀ x∈L0,x∈L) (hL:LtL L0 w0) (hf:∀ b,Qq v=some b->w0.heap.size<=b):SlRd L0 w v xs :=
 (h.sub hs).rd (fun b hb x hx e=>by have:=hL x hx b e;grind)
theorem Xd {v:Value} {b:Nat} (h:Qq v≠some b):Avoids [v] b:=fun x hx e=>by simp_all
theorem QB {b b':Nat} (h:b'≠b):Avoids [.pointer (some ⟨b',0,none⟩)] b:=fun x hx e=>by grind [Qq,Eg]
end
end Go.Gw
namespace Go.Gw
section
variable {P:Program} [JD P] {n:Nat} {q:Post} {ρ:Env} {w:World}
theorem Xi {c:Code} {σ β:Type} {step:σ->Option (σ⊕β)} {s:σ} {o:β} (I:σ->Env->World->Prop) (h:loop step s=some o) (h0:I s ρ w)
  (round:∀ s ρ w,I s ρ w->∀ x,step s=some x->(∀ y,x=.inr y->y=o)->∀ K:Env->World->Prop,(∀ s' ρ w,x=.inl s'->I s' ρ w->K ρ w)->WC P n c ⟨K,q.ex,q.ret⟩ ρ w):WC P n (.loop c) q ρ w :=
 QHp I h h0 fun s ρ w hI x hx ho=>round s ρ w hI x hx ho _ fun s' _ _ he hI'=>⟨s',he,hI'⟩
theorem Xq {α:Type} {a:α} {L L':List α} (h:a∈L') (hs:∀ x∈L,x∈L'):∀ x∈a::L,x∈L':=fun x hx=>by
 grind
theorem Xx {α:Type} (L:List α):∀ x∈L,x∈L:=fun _ h=>h
theorem QU {α:Type} {a:α} {L L':List α} (hs:∀ x∈L,x∈L'):∀ x∈L,x∈a::L':=fun x hx=>En _ (hs x hx)
theorem Qn {α:Type} {a:α} {L:List α}:a∈a::L:=List.mem_cons_self ..
theorem Q3 {α:Type} {a b:α} {L:List α} (h:a∈L):a∈b::L:=En _ h
theorem Xg {α:Type} {x0 x1:α} {L:List α}:x1∈x0::x1::L:=Q3 Qn
theorem YC {α:Type} {x0 x1 x2:α} {L:List α}:x2∈x0::x1::x2::L:=Q3 (Q3 Qn)
theorem X9 {α:Type} {x0 x1 x2 x3:α} {L:List α}:x3∈x0::x1::x2::x3::L:=Q3 (Q3 (Q3 Qn))
theorem Qdx {α:Type} {x0 x1 x2 x3 x4:α} {L:List α}:x4∈x0::x1::x2::x3::x4::L:=Q3 (Q3 (Q3 (Q3 Qn)))
theorem Z9 {α:Type} {x0 x1 x2:α} {L:List α}:∀ x∈L,x∈x0::x1::x2::L:=QU (QU (QU (Xx _)))
theorem ZL {α:Type} {x0 x1 x2 x3:α} {L:List α}:∀ x∈L,x∈x0::x1::x2::x3::L:=QU (QU (QU (QU (Xx _))))
theorem Qcf {α:Type} {x0 x1 x2 x3 x4:α} {L:List α}:∀ x∈L,x∈x0::x1::x2::x3::x4::L:=QU (QU (QU (QU (QU (Xx _)))))
theorem Qhq {α:Type} {x0 x1 x2:α} {L:List α}:∀ x∈x0::x1::L,x∈x0::x1::x2::L:=Xq Qn (Xq (Q3 Qn) (QU (QU (QU (Xx _)))))
theorem Qpu {α:Type} {x0 x1 x2 x3 x4:α} {L:List α}:∀ x∈x0::x1::x3::x4::L,x∈x0::x1::x2::x3::x4::L:=Xq Qn (Xq (Q3 Qn) (Xq (Q3 (Q3 (Q3 Qn))) (Xq (Q3 (Q3 (Q3 (Q3 Qn)))) (QU (QU (QU (QU (QU (Xx _)))))))))
theorem J0 {α:Type} {x0 x1 x2:α} {L:List α}:∀ x∈x0::x2::L,x∈x0::x1::x2::L:=Xq Qn (Xq (Q3 (Q3 Qn)) (QU (QU (QU (Xx _)))))
theorem Z8 {α:Type} {x0 x1 x2 x3:α} {L:List α}:∀ x∈x0::x2::x3::L,x∈x0::x1::x2::x3::L:=Xq Qn (Xq (Q3 (Q3 Qn)) (Xq (Q3 (Q3 (Q3 Qn))) (QU (QU (QU (QU (Xx _)))))))
theorem Qkw {α:Type} {x0 x1 x2 x3 x4:α} {L:List α}:∀ x∈x0::x2::x3::x4::L,x∈x0::x1::x2::x3::x4::L:=Xq Qn (Xq (Q3 (Q3 Qn)) (Xq (Q3 (Q3 (Q3 Qn))) (Xq (Q3 (Q3 (Q3 (Q3 Qn)))) (QU (QU (QU (QU (QU (Xx _)))))))))
theorem Qbc {α:Type} {x0:α} {L:List α}:∀ x∈x0::L,x∈x0::L:=Xq Qn (QU (Xx _))
theorem J1 {α:Type} {x0 x1:α} {L:List α}:∀ x∈x0::L,x∈x0::x1::L:=Xq Qn (QU (QU (Xx _)))
theorem Q6 {α:Type} {x0 x1:α} {L:List α}:∀ x∈x1::x0::L,x∈x0::x1::L:=Xq (Q3 Qn) (Xq Qn (QU (QU (Xx _))))
theorem Qwe {α:Type} {x0 x1 x2:α} {L:List α}:∀ x∈x1::x0::L,x∈x0::x1::x2::L:=Xq (Q3 Qn) (Xq Qn (QU (QU (QU (Xx _)))))
theorem X2 {α:Type} {x0 x1 x2:α} {L:List α}:∀ x∈x1::x0::x2::L,x∈x0::x1::x2::L:=Xq (Q3 Qn) (Xq Qn (Xq (Q3 (Q3 Qn)) (QU (QU (QU (Xx _))))))
theorem YT {α:Type} {x0 x1 x2 x3:α} {L:List α}:∀ x∈x1::x0::x2::x3::L,x∈x0::x1::x2::x3::L:=Xq (Q3 Qn) (Xq Qn (Xq (Q3 (Q3 Qn)) (Xq (Q3 (Q3 (Q3 Qn))) (QU (QU (QU (QU (Xx _))))))))
theorem Qwd {α:Type} {x0 x1 x2 x3 x4:α} {L:List α}:∀ x∈x1::x0::x2::x3::x4::L,x∈x0::x1::x2::x3::x4::L:=Xq (Q3 Qn) (Xq Qn (Xq (Q3 (Q3 Qn)) (Xq (Q3 (Q3 (Q3 Qn))) (Xq (Q3 (Q3 (Q3 (Q3 Qn)))) (QU (QU (QU (QU (QU (Xx _))))))))))
theorem XL {α:Type} {x0 x1 x2:α} {L:List α}:∀ x∈x1::x2::L,x∈x0::x1::x2::L:=Xq (Q3 Qn) (Xq (Q3 (Q3 Qn)) (QU (QU (QU (Xx _)))))
theorem Qbd {α:Type} {x0 x1 x2:α} {L:List α}:∀ x∈x1::x2::x0::L,x∈x0::x1::x2::L:=Xq (Q3 Qn) (Xq (Q3 (Q3 Qn)) (Xq Qn (QU (QU (QU (Xx _))))))
theorem Qbq {α:Type} {x0 x1 x2 x3:α} {L:List α}:∀ x∈x1::x2::x3::L,x∈x0::x1::x2::x3::L:=Xq (Q3 Qn) (Xq (Q3 (Q3 Qn)) (Xq (Q3 (Q3 (Q3 Qn))) (QU (QU (QU (QU (Xx _)))))))
theorem QFq {α:Type} {x0 x1 x2 x3 x4:α} {L:List α}:∀ x∈x1::x2::x3::x4::L,x∈x0::x1::x2::x3::x4::L:=Xq (Q3 Qn) (Xq (Q3 (Q3 Qn)) (Xq (Q3 (Q3 (Q3 Qn))) (Xq (Q3 (Q3 (Q3 (Q3 Qn)))) (QU (QU (QU (QU (QU (Xx _)))))))))
theorem Qwf {α:Type} {x0 x1 x2 x3 x4 x5:α} {L:List α}:∀ x∈x1::x2::x3::x4::x5::L,x∈x0::x1::x2::x3::x4::x5::L:=Xq (Q3 Qn) (Xq (Q3 (Q3 Qn)) (Xq (Q3 (Q3 (Q3 Qn))) (Xq (Q3 (Q3 (Q3 (Q3 Qn)))) (Xq (Q3 (Q3 (Q3 (Q3 (Q3 Qn))))) (QU (QU (QU (QU (QU (QU (Xx _)))))))))))
theorem YZ {α:Type} {x0 x1:α} {L:List α}:∀ x∈x1::L,x∈x0::x1::L:=Xq (Q3 Qn) (QU (QU (Xx _)))
theorem Qwg {α:Type} {x0 x1 x2:α} {L:List α}:∀ x∈x2::x0::x1::L,x∈x0::x1::x2::L:=Xq (Q3 (Q3 Qn)) (Xq Qn (Xq (Q3 Qn) (QU (QU (QU (Xx _))))))
theorem J2 {α:Type} {x0 x1 x2 x3:α} {L:List α}:∀ x∈x2::x0::x1::x3::L,x∈x0::x1::x2::x3::L:=Xq (Q3 (Q3 Qn)) (Xq Qn (Xq (Q3 Qn) (Xq (Q3 (Q3 (Q3 Qn))) (QU (QU (QU (QU (Xx _))))))))
theorem QFr {α:Type} {x0 x1 x2 x3 x4:α} {L:List α}:∀ x∈x3::x0::x1::x2::x4::L,x∈x0::x1::x2::x3::x4::L:=Xq (Q3 (Q3 (Q3 Qn))) (Xq Qn (Xq (Q3 Qn) (Xq (Q3 (Q3 Qn)) (Xq (Q3 (Q3 (Q3 (Q3 Qn)))) (QU (QU (QU (QU (QU (Xx _))))))))))
theorem QA {α:Type} {L:List α}:∀ x∈([]:List α),x∈L:=fun _ h=>by cases h
end
end Go.Gw
namespace Go.Gw
def Xs {β μ:Type} (o:β⊕μ) (f:μ->Option β):Option β:=match o with | .inl b=>some b | .inr m=>f m
theorem Xn {β μ:Type} {a:β} {f:μ->Option β} {x:β} (h:Xs (.inl a) f=some x):some a=some x:=h
theorem XO {β μ:Type} {a:μ} {f:μ->Option β} {x:β} (h:Xs (.inr a) f=some x):f a=some x:=h
section
variable {α:Type} [Rep α] {w w':World}
theorem Yf {e:TypeId} {L:List Value} {v:Value} {xs:List α} {b:Nat} (h:Own e L w v xs) (hb:w.heap.size<=b):Qq v≠some b:=fun e=>by have:=h.blk_lt e;omega
theorem XA {v v':Value} {b:Nat} {cs:List Value} {T:TypeId} (hbl:∀ b,Qq v'=some b->Qq v=some b\/w.heap.size<=b) (h:Qq v≠some b) (hB:Box w b cs T):Qq v'≠some b:=fun e=>by
 rcases hbl b e with h1 | h1
 ·exact h h1
 ·have:=hB.lt;omega
theorem Qiq {e:TypeId} {L:List Value} {u v v':Value} {xs:List α} (hbl:∀ b,Qq v'=some b->Qq v=some b\/w.heap.size<=b) (h:∀ b,Qq u=some b->Qq v≠some b) (hu:Own e L w u xs):∀ b,Qq u=some b->Qq v'≠some b:=fun b hb e=>by
 rcases hbl b e with h1 | h1
 ·grind
 ·have:=hu.blk_lt hb;omega
theorem XY {v v':Value} {w0:World} (hbl:∀ b,Qq v'=some b->Qq v=some b\/w.heap.size<=b) (h:∀ b,Qq v=some b->w0.heap.size<=b) (hs:w0.heap.size<=w.heap.size):∀ b,Qq v'=some b->w0.heap.size<=b:=fun b hb=>by
 grind
theorem Qir {u v:Value} (h:∀ b,Qq u=some b->Qq v≠some b):∀ b,Qq v=some b->Qq u≠some b:=fun b hb e=>h b e hb
theorem Jk (b:Nat) {p:Prop} (h:Qq (.slice none 0 0)=some b):p:=by cases h
theorem Qie {v:Value} {u:Value} (h:∀ b,Qq u=some b->Qq v≠some b):∀ b,Qq u=some b->Avoids [v] b:=fun b hb=>Xd (h b hb)
theorem Xm {v:Value} {b:Nat} (h:Qq v≠some b):∀ k,Qq v=some k->Avoids [.pointer (some ⟨b,0,none⟩)] k:=fun k hk=>QB (fun e=>h (by simp_all))
theorem XR {v:Value} {w0:World} (h:Ext w0 w) (c:Chg [v] w w') (hf:∀ b,Qq v=some b->w0.heap.size<=b):Ext w0 w':=Chg.fresh h c (fun x hx n e=>by simp_all)
theorem QM {b:Nat} {w0:World} (h:Ext w0 w) (c:Chg [.pointer (some ⟨b,0,none⟩)] w w') (hf:w0.heap.size<=b):Ext w0 w':=Chg.fresh h c (fun x hx n e=>by grind [Qq,Eg])
end
end Go.Gw
namespace Go.Gw
def app {α:Type} (xs ys:List α):Option (List α):=if xs.length+ys.length<=1073741824 then some (xs++ys) else none
theorem Qxw {α:Type} {xs ys zs:List α} (h:app xs ys=some zs):xs.length+ys.length<=1073741824/\zs=xs++ys:=by
 grind [app]
def quo (a b:Int):Option Int:=if b=0 then none else some (w64 (a.tdiv b))
def rem (a b:Int):Option Int:=if b=0 then none else some (a.tmod b)
theorem QUk {a b c:Int} (h:quo a b=some c):b≠0/\c=w64 (a.tdiv b):=by
 grind [quo]
section
variable {P:Program} [JD P] {n:Nat} {ρ:Env} {w:World}
variable {d:Option Nat} {t T U:TypeId} {p:String} {af:Array Edge} {gu:Option (Nat×Bool)} {x y z:Operand}
theorem Q1g {a b c:Int} (h:quo a b=some c) (hx:Qr n ρ x=.int .i64 a) (hy:Qr n ρ y=.int .i64 b):Yl P n ρ ⟨d,.binOp .quo T x y U,t,p,af,gu⟩ w (.int .i64 c):=by
 obtain ⟨hb,rfl⟩:=QUk h;exact Qxc hb hx hy
theorem QJu {α:Type} [Rep α] {e:TypeId} {bytes:Nat} {z:Value} {L:List Value} {len:Nat} {xs:List α} {cells:List Value} {parts:Array (Nat×Operand)} {K:Value->World->Prop}
  (hu:P.underlying T=some (.slice e)) (hi:EInfo P e (Rep.n α) bytes z) (hsmall:Eb (len * Rep.n α) 16777216=true)
  (hf:Qaw (fun i=>some (i * Rep.n α,Rep.n α)) (Qen z.cells.toList (len * Rep.n α)) (parts.toList.map fun q=>(q.1,Qr n ρ q.2))=some cells)
  (hel:Elems L w cells xs) (hl:xs.length=len) (hlt:LtL L w)
  (h:∀ b w',Ext w w'->SlRd L w' (.slice (some ⟨b,0,none⟩) len len) xs->K (.slice (some ⟨b,0,none⟩) len len) w'):Eff P ⟨d,.buildSlice T len parts,t,p,af,gu⟩ n ρ w K :=
 Qrx hu hi hsmall hf hel hl fun b w' hb he ho _=>h b w' he (ho.rd fun k hk x hx e=>by
  have:=hlt x hx k e
  grind [Qq])

theorem QJt {α:Type} [Rep α] {e:TypeId} {bytes:Nat} {z:Value} {L:List Value} {len:Nat} {xs:List α} {cells:List Value} {parts:Array (Nat×Operand)} {K:Value->World->Prop}
  (hu:P.underlying T=some (.slice e)) (hi:EInfo P e (Rep.n α) bytes z) (hsmall:Eb (len * Rep.n α) 16777216=true)
  (hf:Qaw (fun i=>some (i * Rep.n α,Rep.n α)) (Qen z.cells.toList (len * Rep.n α)) (parts.toList.map fun q=>(q.1,Qr n ρ q.2))=some cells)
  (hel:Elems L w cells xs) (hl:xs.length=len)
  (h:∀ v w',Ext w w'->(∀ b,Qq v=some b->w.heap.size<=b)->Own e (v::L) w' v xs->K v w'):Eff P ⟨d,.buildSlice T len parts,t,p,af,gu⟩ n ρ w K :=
 Qrx hu hi hsmall hf hel hl fun _ w' hb he _ ho=>h _ w' he (fun k hk=>by grind [Qq]) ho

theorem Jl {α:Type} [Rep α] {e:TypeId} {bytes:Nat} {zz:Value} {L:List Value} {v vx:Value} {xs ys zs:List α} {K:Value->World->Prop} {aT:Array TypeId}
  (hu:P.underlying T=some (.slice e)) (hi:EInfo P e (Rep.n α) bytes zz) (hbm:Eb bytes 65536=true) (hT:aT=#[T,T]) (hx:Qr n ρ x=v) (hy:Qr n ρ y=vx) (hown:Own e (v::L) w v xs) (hs:SlRd (v::L) w vx ys)
  (hz:app xs ys=some zs)
  (h:∀ v' w',Chg [v] w w'->(∀ b,Qq v'=some b->Qq v=some b\/w.heap.size<=b)->Own e (v'::L) w' v' zs->K v' w'):Eff P ⟨d,.call ⟨.builtin .append,#[x,y],aT⟩,t,p,af,gu⟩ n ρ w K:=by
 obtain ⟨hb,rfl⟩:=Qxw hz;have hbm:bytes<=65536:=by simpa using hbm
 have:(xs.length+ys.length) * bytes<=1073741824 * 65536:=El hb hbm
 grind [QJq,maxLen]
end
end Go.Gw
namespace Go.Gw
section
variable {P:Program} [JD P] {n:Nat} {ρ:Env} {w:World}
variable {d:Option Nat} {t T U:TypeId} {p:String} {af:Array Edge} {gu:Option (Nat×Bool)} {x y z:Operand}
theorem Qbh {a b:Bool} (ha:a=true) (hb:b=true):(a&&b)=true:=by simp_all
theorem YQ {b:Bool} (h:b=false):(!b)=true:=by subst h;rfl
theorem QL {α:Type} [Rep α] {e:TypeId} {L:List Value} {w2:World} {v:Value} {xs:List α} {aT:Array TypeId} (hT:aT[0]?=some T) (hu:P.underlying T=some (.slice e)) (hs:SlRd L w2 v xs) (hx:Qr n ρ x=v) :
  Yl P n ρ ⟨d,.call ⟨.builtin .len,#[x],aT⟩,t,p,af,gu⟩ w (.int .i64 xs.length):=by
 obtain ⟨a,c,rfl,_⟩:=hs.shape;exact Qll hT hu hx
theorem JQ {α:Type} [Rep α] {e e':TypeId} {L:List Value} {w2:World} {v:Value} {xs:List α} {aT:Array TypeId} (hT:aT[0]?=some T) (hu:P.underlying T=some (.slice e)) (hs:Own e' L w2 v xs) (hx:Qr n ρ x=v) :
  Yl P n ρ ⟨d,.call ⟨.builtin .len,#[x],aT⟩,t,p,af,gu⟩ w (.int .i64 xs.length):=by
 obtain ⟨a,c,rfl,_⟩:=hs.shape;exact Qll hT hu hx

omit [JD P] in
structure ZI (P:Program) (T:TypeId) (cs:List Value):Prop where
 ex:∃ i z,P.info? T=some i/\i.zero=some z/\z.cells.toList=cs
theorem Xh {cs:List Value} {K:Value->World->Prop} (hZ:ZI P T cs)
  (h:∀ b w',w.heap.size<=b->Ext w w'->Box w' b cs T->K (.pointer (some ⟨b,0,none⟩)) w'):Eff P ⟨d,.alloc T,t,p,af,gu⟩ n ρ w K:=by
 obtain ⟨i,z,hi,hz,hc⟩:=hZ.ex
 grind [QJo]
theorem Xp {v:Value} {cs:List Value} {K:Value->World->Prop} (hx:Qr n ρ x=v) (hc:v.cells.toList=cs)
  (h:∀ b w',w.heap.size<=b->Ext w w'->Box w' b cs T->K (.pointer (some ⟨b,0,none⟩)) w'):Eff P ⟨d,.box T x,t,p,af,gu⟩ n ρ w K :=
 QJs hx fun b w' hb he hB=>h b w' hb he (hc▸hB)
theorem Zq {v:Value} {b off:Nat} {cs cs' vs:List Value} {T':TypeId} {K:Value->World->Prop} {k:Nat} (hs:Xr P T k) (hv:v.cells.toList=vs) (hk:vs.length=k) (hx:Qr n ρ x=.pointer (some ⟨b,off,none⟩)) (hy:Qr n ρ y=v)
  (hb:Box w b cs T') (hl:Eb (off+k) cs.length=true) (h1:∀ u∈vs,u.oneCell'=true) (hcs:Za cs off vs=cs')
  (h:∀ w',Chg [.pointer (some ⟨b,0,none⟩)] w w'->Box w' b cs' T'->K undef w'):Eff P ⟨d,.store T x y,t,p,af,gu⟩ n ρ w K:=by
 subst hv;subst hk;subst hcs;have e:v.cells.toList.length=v.cells.size:=by simp
 exact QJy (by trivial) hx hy hb (by simp_all) h1 h
theorem QJ:∀ u∈([]:List Value),u.oneCell'=true:=fun _ h=>by cases h
theorem Qj {v:Value} {vs:List Value} (h:v.oneCell'=true) (hs:∀ u∈vs,u.oneCell'=true):∀ u∈v::vs,u.oneCell'=true:=fun u hu=>by
 grind
theorem SlRd.one1 {α:Type} [Rep α] {L:List Value} {v:Value} {xs:List α} (h:SlRd L w v xs):v.oneCell'=true:=by obtain ⟨a,c,rfl,_⟩:=h.shape;rfl
theorem Own.one1 {α:Type} [Rep α] {e:TypeId} {L:List Value} {v:Value} {xs:List α} (h:Own e L w v xs):v.oneCell'=true:=by obtain ⟨a,c,rfl,_⟩:=h.shape;rfl
theorem Qo {L:List Value} {w':World} {b:Nat} (he:Ext w w') (hb:w.heap.size<=b):Stepp L w (.pointer (some ⟨b,0,none⟩)::L) w':=Stepp.add _ he (fun k hk=>by grind [Qq])
theorem Jh {L:List Value} (w:World):Stepp L w (.slice none 0 0::L) w:=Stepp.add _ (Chg.refl [] _) (fun _ h=>by cases h)
theorem QY {b b':Nat} {cs:List Value} {T:TypeId} (h:Box w b' cs T) (hb:w.heap.size<=b):b≠b':=fun e=>by have:=h.lt;omega
theorem Q8 {w0:World} {b:Nat} (h:Ext w0 w) (hb:w.heap.size<=b):w0.heap.size<=b:=Eo h.size hb

section
variable {i1 i2 i3 i4 i5 i6 i7 i8 i9:Nat} {x1 x2 x3 x4 x5 x6 x7 x8 x9:Operand} {v1 v2 v3 v4 v5 v6 v7 v8 v9:Value}
end
end
end Go.Gw

end
section
set_option linter.unusedVariables false
namespace Go.Gw
open Go Go.Conc
section
variable {P:Program}
theorem Tame.bindP {α β:Type} {m:Sem α} {f:α->Sem β} (φ:α->Prop) (h:Tame P m) (hφ:∀ w es r w',(m.runT P w es).1=.ok r w'->φ r) (hf:∀ a,φ a->Tame P (f a)):Tame P (m >>= f):=by
  classical
  refine .same _ (m >>= fun a => if φ a then f a else Sem.halt (.stuck "")) (fun w es => ?_) (.bnd h fun a => ?_)
  · rw [show (m >>= f) = m.bind f from rfl, Go.Sem.runT_bind', show (m >>= fun a => if φ a then f a else Sem.halt (.stuck "")) = m.bind _ from rfl, Go.Sem.runT_bind']
    grind
  grind [halt]
def Qgk:Value->Bool
 | .bool _ | .int _ _ | .string _ | .float _ _=>true
 | _=>false
def NP (v:Value):Prop:=Qgk v=true\/∃ cs,v=.agg cs/\∀ c∈cs.toList,Qgk c=true
theorem NP.part {t:TypeId} {cs:Array Value} {off:Nat} (h:∀ c∈cs.toList,Qgk c=true):∀ w es r w',((part t cs off).runT P w es).1=.ok r w'->NP r:=by
 intro w es r w' hr;rw [Sem.runT_fst] at hr;unfold Go.part at hr;simp only [Sem.run_bind] at hr;cases h1:(isAgg t).run P w with
 | halt x w1=>simp_all
 | ok b w1 =>
  simp only [h1,Result.andThen] at hr;cases b with
  | true =>
   simp only [if_true,Sem.run_bind] at hr;cases h2:(sizeOf t).run P w1 with
   | halt x w2=>simp_all
   | ok k w2 =>
    simp only [h2,Result.andThen,Sem.run_pure] at hr;cases hr;refine .inr ⟨_,rfl,fun c hc=>h c ?_⟩
    grind [List.mem_of_mem_drop,List.mem_of_mem_take,Array.toList_extract,List.extract_eq_take_drop]
  | false =>
   simp only [Bool.false_eq_true,if_false] at hr;split at hr
   ·rename_i v hv;simp only [Sem.run_pure] at hr;cases hr;exact .inl (h _ (Array.mem_toList_iff.2 (Array.mem_of_getElem? hv)))
   trivial
theorem Qfs (t:TypeId) (cs:Array Value) (off:Nat):Tame P (part t cs off):=by
 unfold part;refine .bnd (QGb _) fun b=>JG (.bnd (JO _) fun _=>.pure _) ?_;split<;>first | exact .pure _ | exact YK _
theorem QGa (t:TypeId) (x y:Value):Tame P (Instr.index t x y):=by
 unfold Instr.index;refine .bnd (Qpx _) fun _=>.bnd (Qbe _) fun _=>?_;split
 ·exact JG (.bnd (JO _) fun _=>Qfs _ _ _) (Qpy _ _ _ _)
 ·split<;>first | exact .pure _ | exact Qpy _ _ _ _
 ·exact YK _
theorem Qqa {α β:Type} (f:α->β->Sem (ForInStep β)) (hf:∀ a b,Tame P (f a b)):∀ (xs:List α) (b:β),Tame P (forIn xs b f)
 | [],b=>by rw [List.forIn_nil];exact .pure _
 | x::xs,b=>by
  rw [List.forIn_cons];refine .bnd (hf x b) fun r=>?_;split
  ·exact .pure _
  ·exact Qqa f hf xs _
theorem Qpz:∀ (d:Nat) (t:TypeId) (x y:Value),NP x->Tame P (Op.equalIn d t x y)
  | 0,_,_,_,_=>Qbr _
  | d+1,t,x,y,hx=>by
    have ih:∀ (t t':TypeId) (cs ds:Array Value) (o o':Nat),(∀ c∈cs.toList,Qgk c=true)->Tame P (part t cs o >>= fun a=>part t' ds o' >>= fun b=>Op.equalIn d t a b):=fun t t' cs ds o o' hc =>
      .bindP NP (Qfs _ _ _) (NP.part hc) fun a ha=>.bnd (Qfs _ _ _) fun b=>Qpz d _ _ _ ha
    unfold Op.equalIn;refine .bnd (Qbe _) fun D=>?_;rcases hx with h | ⟨cs,rfl,hc⟩
    · split <;> first
        | exact .pure _
        | exact YK _
        | exact Qbr _
        | exact JG (.pure _) (YK _)
        | trivial
    · split
      all_goals first
        | contradiction
        | exact YK _
        | exact Qbr _
        | skip
      · rename_i heq;obtain rfl:=Value.agg.inj heq;refine .bnd Qqb fun p=>?_
        have body : ∀ (ys : Array Value) (fs : Array Field), Tame P (forIn fs ((none : Option Bool), ()) fun f __s => (if f.name ≠ "_" then (part f.type cs f.offset >>= fun a => part f.type ys f.offset >>= fun b => Op.equalIn d f.type a b >>= fun r => if (!r) = true then (pure (ForInStep.done (some false, ())) : Sem _) else pure (ForInStep.yield (none, ()))) else pure (ForInStep.yield (none, ())))) := fun ys fs => by
          rw [<-Array.forIn_toList];refine Qqa _ (fun f b=>JG ?_ (.pure _)) _ _;refine .bindP NP (Qfs _ _ _) (NP.part hc) fun a ha=>.bnd (Qfs _ _ _) fun b=>.bnd (Qpz d _ _ _ ha) fun r=>JG (.pure _) (.pure _)
        refine JG (.bnd (Qbr _) fun _=>?_) ?_
        all_goals
          refine .bnd (body _ _) fun r=>?_;dsimp only;split<;>exact .pure _
      · rename_i heq;obtain rfl:=Value.agg.inj heq;refine .bnd (JO _) fun n=>.bnd ?_ fun r=>?_
        · rw [Std.Legacy.Range.forIn_eq_forIn_range'];refine Qqa _ (fun f b=>?_) _ _;exact .bindP NP (Qfs _ _ _) (NP.part hc) fun a ha=>.bnd (Qfs _ _ _) fun b=>.bnd (Qpz d _ _ _ ha) fun r=>JG (.pure _) (.pure _)
        · dsimp only;split<;>exact .pure _
end
end Go.Gw

end
section
set_option linter.unusedSectionVars false
namespace Go.Gw
open Go
section
variable {P:Program} [JD P] {n:Nat} {q:Post} {ρ:Env} {w:World}
variable {d:Option Nat} {t T U:TypeId} {p:String} {af:Array Edge} {gu:Option (Nat×Bool)} {x y z:Operand}

theorem Qe {α:Type} {a x:α} (h:some a=some x):a=x:=Option.some.inj h

theorem Q4 {c:Code} (M:Env->World->Prop) (h:∀ K:Env->World->Prop,(∀ ρ w,M ρ w->K ρ w)->WC P n c ⟨K,q.ex,q.ret⟩ ρ w) (h2:∀ ρ w,M ρ w->q.norm ρ w):WC P n c q ρ w :=
 (h M fun _ _ h=>h).mono h2 (fun _ _ _ h=>h) (fun _ _ h=>h)

structure EqS (P:Program) (T:TypeId) (X Y:Array Value) (r:Bool):Prop where
 np:∀ c∈X.toList,Qgk c=true
 run:∀ w,(Op.equalIn (9999+1) T (.agg X) (.agg Y)).run P w=.ok r w
theorem QWl {X Y:Value} {r:Bool} (h:(Op.equalIn (9999+1) T X Y).run P w=.ok r w):(Op.equal T X Y).run P w=.ok r w:=by
 trivial
theorem QYx {X Y:Array Value} {r:Bool} {f:Bool->Bool} (hg:P.eqGuardType P.depth T=false) (h:EqS P T X Y r):Tame P (Op.equal T (.agg X) (.agg Y)):=Qpz _ _ _ _ (.inr ⟨X,rfl,h.np⟩)
theorem QYz {α:Type} {op:BinOp} {X Y:Array Value} {m:Sem α} (hg:P.eqGuardType P.depth T=false) (hm:Tame P m):Tame P (eqGuard op T x y (.agg X) (.agg Y) >>= fun _=>m):=by
 refine .same _ m (fun w es=>?_) hm;simp_all [eqGuard,Xo]
theorem Q0u {X Y:Array Value} {r:Bool} (hg:P.eqGuardType P.depth T=false) (hx:Qr n ρ x=.agg X) (hy:Qr n ρ y=.agg Y) (h:EqS P T X Y r):Yl P n ρ ⟨d,.binOp .eql T x y U,t,p,af,gu⟩ w (.bool r) :=
 Zf (Yn (by simp only [hx,hy];exact QYz hg (.bnd (QYx (f:=id) hg h) fun _=>.pure _))) fun w1 _=>by simp [execOp,hx,hy,eqGuard,binOp,QWl (h.run w1),hg,Result.andThen]
theorem Elems.cons {α:Type} [Rep α] {L:List Value} {cs rest:List Value} {x:α} {xs:List α} (h:Rep.rd L w cs x) (hs:Elems L w rest xs):Elems L w (cs++rest) (x::xs):=(Elems.one h).append hs

end
end Go.Gw
namespace Go.Gw
open Go
section
variable {P:Program} {T:TypeId}
theorem Yv {k:Nat} (h:(P.info? T).map (·.size)=some k):Xr P T k:=by
 cases hi:P.info? T with
 | none=>grind
 | some i=>simp [hi] at h;exact ⟨i,hi,h⟩
theorem Qbw {k:Nat} {dsc:TypeDesc} (hm:match dsc with | .struct _ | .array _ _=>True | _=>False) (hu:P.underlying T=some dsc) (h:(P.info? T).map (·.size)=some k):Aggr P T k:=by
 obtain ⟨i,hi,hk⟩:=Yv h;exact ⟨dsc,i,hu,hm,hi,hk⟩
theorem JT {k bytes:Nat} {z:Value} (h:(P.info? T).bind (fun i=>i.zero.map fun z=>(i.size,i.bytes,z))=some (k,bytes,z)) (hz:z.cells.size=k) (hk:0 < k):EInfo P T k bytes z:=by
 cases hi:P.info? T with
 | none=>grind
 | some i =>
  simp only [hi,Qp,Ee,Prod.mk.injEq] at h;obtain ⟨z',h1,h2,h3,h4⟩:=h;exact ⟨⟨i,hi,h2,h3,by rw [h1,h4],hz,hk⟩⟩
theorem Qbj {places:List (Nat×Nat)} {zero:List Value} {fs:Array Field} (hu:P.underlying T=some (.struct fs)) (hz:(P.info? T).bind (fun i=>i.zero.map fun z=>z.cells)=some zero.toArray)
  (hp:fs.toList.mapM (fun f=>(P.info? f.type).map fun i=>(f.offset,i.size))=some places):BI P T places zero:=by
 cases hi:P.info? T with
 | none=>grind
 | some i =>
  simp only [hi,Qp,Ee] at hz;obtain ⟨z,h1,h2⟩:=hz;exact ⟨⟨i,fs,z,hi,hu,h1,h2,hp⟩⟩
theorem Je {cs:List Value} (hz:(P.info? T).bind (fun i=>i.zero.map fun z=>z.cells.toList)=some cs):ZI P T cs:=by
 cases hi:P.info? T with
 | none=>grind
 | some i =>
  simp only [hi,Qp,Ee] at hz;obtain ⟨z,h1,h2⟩:=hz;exact ⟨⟨i,z,hi,h1,h2⟩⟩
end
end Go.Gw
namespace Go.Gw
open Go
theorem QS {L:List Value} {w:World} {b:Nat} {cs:List Value} {T:TypeId} (h:LtL L w) (hB:Box w b cs T):LtL (.pointer (some ⟨b,0,none⟩)::L) w:=h.cons fun k hk=>by
 have e:b=k:=by grind [Qq]
 subst e;exact hB.lt
theorem XV {α:Type} [Rep α] {e:TypeId} {L L':List Value} {w:World} {v:Value} {xs:List α} (h:LtL L w) (hO:Own e L' w v xs):LtL (v::L) w:=h.cons fun _ hk=>hO.blk_lt hk
end Go.Gw
namespace Go.Gw
open Go
theorem Xa {v:Value} (h:v.oneCell'=true):v.cells.toList=[v]:=by
 cases v<;>first | rfl | cases h

def Qdu (place:Nat->Option (Nat×Nat)) (cells:List Value):List (Nat×List Value)->Option (List Value)
 | []=>some cells
 | (i,vs)::rest =>
  match place i with
  | none=>none
  | some (off,size)=>bif Nat.beq vs.length size&&Eb (off+vs.length) cells.length then Qdu place (Za cells off vs) rest else none
theorem Qzh (place:Nat->Option (Nat×Nat)):∀ (pv:List (Nat×Value)) (cells:List Value),Qaw place cells pv=Qdu place cells (pv.map fun q=>(q.1,q.2.cells.toList))
 | [],_=>rfl
 | (i,v)::rest,cells=>by
  simp only [Qaw,Qdu,List.map_cons];cases place i with
  | none=>rfl
  | some p=>simp only [Qzh place rest]

section
variable {P:Program} [JD P] {n:Nat} {q:Post} {ρ:Env} {w:World}
variable {d:Option Nat} {t T U:TypeId} {p:String} {af:Array Edge} {gu:Option (Nat×Bool)} {x y z:Operand}
def PC (n:Nat) (ρ:Env) (parts:List (Nat×Operand)) (pc:List (Nat×List Value)):Prop:=parts.map (fun q=>(q.1,(Qr n ρ q.2).cells.toList))=pc
theorem QX:PC n ρ [] []:=rfl
theorem Qy {i:Nat} {v:Value} {cs:List Value} {ps:List (Nat×Operand)} {pc:List (Nat×List Value)} (h:Qr n ρ x=v) (hc:v.cells.toList=cs) (hs:PC n ρ ps pc):PC n ρ ((i,x)::ps) ((i,cs)::pc):=by
 grind [PC]
theorem PC.fill {parts:List (Nat×Operand)} {pc:List (Nat×List Value)} {place:Nat->Option (Nat×Nat)} {cells out:List Value} (h:PC n ρ parts pc) (hf:Qdu place cells pc=some out):Qaw place cells (parts.map fun q=>(q.1,Qr n ρ q.2))=some out:=by
 rw [Qzh,Et];unfold PC at h;rw [<-hf,<-h];rfl
theorem XC {cells zero:List Value} {places:List (Nat×Nat)} {parts:List (Nat×Operand)} {pc:List (Nat×List Value)} (hB:BI P T places zero) (hp:PC n ρ parts pc) (h:Qdu (places[·]?) zero pc=some cells) :
  Yl P n ρ ⟨d,.build T parts.toArray,t,p,af,gu⟩ w (.agg cells.toArray):=Q0m hB (hp.fill h)
theorem XN {α:Type} [Rep α] {e:TypeId} {bytes:Nat} {z:Value} {L:List Value} {len:Nat} {xs:List α} {cells:List Value} {parts:List (Nat×Operand)} {pc:List (Nat×List Value)} {K:Value->World->Prop}
  (hu:P.underlying T=some (.slice e)) (hi:EInfo P e (Rep.n α) bytes z) (hsmall:Eb (len * Rep.n α) 16777216=true)
  (hp:PC n ρ parts pc) (hf:Qdu (fun i=>some (i * Rep.n α,Rep.n α)) (Qen z.cells.toList (len * Rep.n α)) pc=some cells)
  (hel:Elems L w cells xs) (hl:xs.length=len) (hlt:LtL L w)
  (h:∀ b w',Ext w w'->SlRd L w' (.slice (some ⟨b,0,none⟩) len len) xs->K (.slice (some ⟨b,0,none⟩) len len) w'):Eff P ⟨d,.buildSlice T len parts.toArray,t,p,af,gu⟩ n ρ w K :=
 QJu hu hi hsmall (hp.fill hf) hel hl hlt h
theorem Qis {α:Type} [Rep α] {e:TypeId} {bytes:Nat} {z:Value} {L:List Value} {len:Nat} {xs:List α} {cells:List Value} {parts:List (Nat×Operand)} {pc:List (Nat×List Value)} {K:Value->World->Prop}
  (hu:P.underlying T=some (.slice e)) (hi:EInfo P e (Rep.n α) bytes z) (hsmall:Eb (len * Rep.n α) 16777216=true)
  (hp:PC n ρ parts pc) (hf:Qdu (fun i=>some (i * Rep.n α,Rep.n α)) (Qen z.cells.toList (len * Rep.n α)) pc=some cells)
  (hel:Elems L w cells xs) (hl:xs.length=len)
  (h:∀ v w',Ext w w'->(∀ b,Qq v=some b->w.heap.size<=b)->Own e (v::L) w' v xs->K v w'):Eff P ⟨d,.buildSlice T len parts.toArray,t,p,af,gu⟩ n ρ w K :=
 QJt hu hi hsmall (hp.fill hf) hel hl h
end
end Go.Gw
namespace Go.Gw
open Go
section
variable {P:Program} [JD P] {n:Nat} {ρ:Env} {w:World}
variable {d:Option Nat} {t T U:TypeId} {p:String} {af:Array Edge} {gu:Option (Nat×Bool)} {x y z:Operand}
theorem Qit {f : FuncId} {fn : Func} {c : Code} {xs : Array Operand} {aT : Array TypeId} {args : List Value} {K Φ : Value → World → Prop} (hy : Qr n ρ y = .func (.func f) #[] #[]) (hf : P.funcs[f]? = some fn) (hname : (fn.name == "runtime.NumGoroutine") = false) (hb : fn.body = some c)
    (ha:(xs.map (Qr n ρ)).toList=args) (hc:CallsTo P f args w Φ) (h:∀ v w',Φ v w'->K v w'):Eff P ⟨d,.call ⟨.value y,xs,aT⟩,t,p,af,gu⟩ n ρ w K:=by
  have e:xs.map (Qr n ρ)=args.toArray:=by rw [<-ha]
  have this:∀ w es,(execOp (Qr n ρ) ⟨d,.call ⟨.value y,xs,aT⟩,t,p,af,gu⟩).runT P w es=(.ok (.enter f args.toArray) w,es):=fun w es=>by
    refine Eq.trans ?_ (Qpi (args:=args.toArray) hf hname hb);simp_all [execOp,resolve,Deferred.ofValue,invoke,pure_bind,Array.empty_append,Array.append_empty]
  refine ⟨(Tame.still _ this).fr,.inr fun w1 r=>?_⟩;rw [show (execOp (Qr n ρ) ⟨d,.call ⟨.value y,xs,aT⟩,t,p,af,gu⟩).run P w1=_ from by rw [<-Sem.runT_fst P _ w1 #[],this]];exact CallsJ.rely (CallsTo.mono hc h) r
theorem At.elem {a:Addr} {cs:List Value} {i:Nat} {u:Value} (h:At w a cs) (hi:cs[i]?=some u):At w (a.add (i * 1)) [u]:=by
 have h2:=(At.drop h i).take 1;rw [Ef]
 grind [take,Ek,Eh]
end
end Go.Gw
namespace Go.Gw
open Go
theorem QMi {xs:List Int} {i el:Int} (h:idx xs i=some el):i < xs.length:=by obtain ⟨h0,h1,_⟩:=Qah h;omega
end Go.Gw

end
section
set_option linter.unusedSectionVars false
namespace Go.Gw
open Go
section
variable {P:Program} [JD P] {n:Nat} {ρ:Env} {w:World}
variable {d:Option Nat} {t T U:TypeId} {p:String} {af:Array Edge} {gu:Option (Nat×Bool)} {x y z:Operand}

theorem Qli {cells zero:List Value} {m e sz:Nat} {parts:List (Nat×Operand)} {pc:List (Nat×List Value)} (hu:P.underlying T=some (.array m e)) (hs:Xr P e sz) (hz:ZI P T zero) (hp:PC n ρ parts pc)
  (h:Qdu (fun i=>some (i * sz,sz)) zero pc=some cells):Yl P n ρ ⟨d,.build T parts.toArray,t,p,af,gu⟩ w (.agg cells.toArray):=by
 obtain ⟨it,z,h1,h3,h4⟩:=hz.ex;obtain ⟨ie,he,hsz⟩:=hs;have h':P.built T (parts.toArray.map fun (i,x)=>(i,Qr n ρ x)).toList=some cells.toArray:=by
  simp only [Program.built,h1,hu,h3,he,hsz];have:=Qmh _ _ _ (hp.fill h);have hz':z.cells=zero.toArray:=by rw [<-h4]
  simp_all
 grind [Zf,Yn,QFx,execOp,Sem.run_bind,run_build,Result.andThen,Sem.run_pure]

theorem Qbt {e m sz:Nat} {k:IntKind} {i:Int} {a:Addr} {v:Value} (hu:P.underlying T=some (.array m e)) (hs:Xr P e sz) (h0:0<=i) (h1:i < m) (hx:Qr n ρ x=.pointer (some a)) (hy:Qr n ρ y=.int k i)
  (hv:v=.pointer (some (a.add (i.toNat * sz)))):Yl P n ρ ⟨d,.indexAddr T x y,t,p,af,gu⟩ w v:=by grind [Qxb]

theorem QWn {cs:List Value} {off:Nat} {v:Value} (hT:Zd P T) (h:cs[off]?=some v):(part T cs.toArray off).run P w=.ok v w:=by
 simp [part,QEl hT,h]
end
end Go.Gw

end
section
set_option linter.unusedSectionVars false
namespace Go.Gw
open Go
section
variable {P:Program} [JD P] {n:Nat} {q:Post} {ρ:Env} {w:World}

inductive Pl where
 | done
 | p (i:Nat) (r:Pl)
 | q (i:Nat) (r:Pl)
 | e (i:Nat) (r:Pl)
 | b (i:Nat) (r:Pl)
 | f (i:Nat) (r:Pl) (j:Nat) (s:Pl)
def Pl.hasQ:Pl->Bool
 | .done=>false
 | .p _ r=>r.hasQ
 | .q _ _=>true
 | .e _ r=>r.hasQ
 | .b _ _=>false
 | .f _ r _ s=>r.hasQ||s.hasQ
def Pl.len:Pl->Nat
 | .done=>0
 | .p _ r=>r.len+1
 | .q _ r=>r.len+1
 | .e _ r=>r.len+1
 | .b _ r=>r.len+1
 | .f _ r _ _=>r.len+1
def Pl.brk:Pl->List Nat
 | .done=>[]
 | .p _ r=>r.brk
 | .q _ r=>r.brk
 | .e _ r=>r.brk
 | .b i r=>i::r.brk
 | .f _ r _ s=>r.brk++s.brk

def TP (P:Program) [JD P] (n:Nat) (ops:List Oper) (S:World->Prop) (K:Env->World->Prop):Pl->Env->World->Prop
  | .done,ρ,w=>K ρ w
  | .p i r,ρ,w=>∃ o v,ops[i]?=some o/\Quiet P n ops.toArray (fun _=>True) o ρ v/\TP P n ops S K r (Xv ρ o.dst v) w
  | .q i r,ρ,w=>∃ o v,ops[i]?=some o/\Quiet P n ops.toArray S o ρ v/\TP P n ops S K r (Xv ρ o.dst v) w
  | .e i r,ρ,w=>∃ o,ops[i]?=some o/\Stp P n ops.toArray o ρ w (fun ρ' w'=>S w'/\TP P n ops S K r ρ' w')
  | .b i r,ρ,w=>∃ o,ops[i]?=some o/\Stp P n ops.toArray o ρ w (fun ρ' w'=>TP P n ops S K r ρ' w')
  | .f i r j s, ρ, w => (∃ o, ops[i]? = some o /\ Stp P n ops.toArray o ρ w (fun ρ' w' => S w' /\ TP P n ops S K r ρ' w')) /\
      (∃ o,ops[j]?=some o/\Stp P n ops.toArray o ρ w (fun ρ' w'=>S w'/\TP P n ops S K s ρ' w'))

def JW (ops:Array Oper) (bs:List Nat):Pl->Array Bool->Bool
 | .done,listed=>(Region.ready .any ops listed).isEmpty
 | .p i r,listed=>Region.free .any ops listed i&&(Region.ready .any ops listed).contains i&&JW ops bs r (listed.setIfInBounds i true)
 | .q i r,listed=>(bs.all fun b=>Qdy ops ops.size b i)&&Region.free .any ops listed i&&(Region.ready .any ops listed).contains i&&JW ops bs r (listed.setIfInBounds i true)
 | .e i r,listed=>Region.ready .any ops listed == [i]&&(!bs.contains i&&JW ops bs r (listed.setIfInBounds i true))
 | .b i r,listed=>Region.ready .any ops listed == [i]&&(bs.contains i&&(!r.hasQ&&JW ops bs r (listed.setIfInBounds i true)))
 | .f i r j s,listed=>Region.ready .any ops listed == [i,j]&&(Nat.beq r.len s.len&&(!bs.contains i&&(!bs.contains j&&(JW ops bs r (listed.setIfInBounds i true)&&JW ops bs s (listed.setIfInBounds j true)))))

def QDg (ops:Array Oper) (p:Pl):Bool:=Region.noSelect ops&&(Nat.beq p.len ops.size&&JW ops p.brk p (Array.replicate ops.size false))

theorem QZl {listed:Array Bool} {i x:Nat} (h:(listed.setIfInBounds i true).getD x true=false):listed.getD x true=false/\x≠i:=by
 by_cases hx:i=x
 ·simp_all
 ·rw [getD_set_ne true hx] at h;grind

section
variable {S:World->Prop} {K:Env->World->Prop} {ops:List Oper} {o:Oper} {i:Nat} {r:Pl} {v:Value}
end
end
end Go.Gw

end
section
set_option linter.unusedSectionVars false
namespace Go.Gw
open Go
section
variable {P:Program} [JD P] {n:Nat} {ρ:Env} {w:World}
variable {d:Option Nat} {t T U:TypeId} {p:String} {af:Array Edge} {gu:Option (Nat×Bool)} {x y z:Operand}

theorem Qfa {α:Type} [Rep α] {e:TypeId} {L:List Value} {v:Value} {xs:List α} {i:Int} {el y':α} {off k:Nat} {u:Value} {vs:List Value} {K:Value->World->Prop} (hs:Xr P T k) (hc:u.cells.toList=vs) (hk:vs.length=k) (hown:Own e L w v xs) (hv:v∈L) (hel:idx xs i=some el)
  (hx:Qr n ρ x=.pointer (some ((YG v i.toNat (Rep.n α)).add off))) (hy:Qr n ρ y=u) (hl:Eb (off+k) (Rep.n α)=true) (h1:∀ c∈vs,c.oneCell'=true)
  (hset:∀ w' cs,Rep.rd L w' cs el->Rep.rd L w' (Za cs off vs) y')
  (h:∀ w',Chg [v] w w'->Own e L w' v (xs.set i.toNat y')->K undef w'):Eff P ⟨d,.store T x y,t,p,af,gu⟩ n ρ w K:=by
 subst hc;subst hk;have e:u.cells.toList.length=u.cells.size:=by simp
 exact QJz (by trivial) hown hv hel hx hy (by simp_all) h1 hset h

def mk {α:Type} (i:Int) (zero:α):Option (List α):=if 0<=i/\i<=1048576 then some (Ed i.toNat zero) else none
theorem Qnv {α:Type} {i:Int} {zero:α} {xs:List α} (h:mk i zero=some xs):0<=i/\i<=1048576/\xs=Ed i.toNat zero:=by
 grind [mk]

theorem Elems.replicate {α:Type} [Rep α] {L:List Value} {c:Value} {zero:α} (h1:Rep.n α=1) (hz:Rep.rd L w [c] zero):∀ m:Nat,Elems L w (Ed m c) (Ed m zero)
 | 0=>Elems.nil
 | m+1=>by
  rw [Ei,Ei];exact Elems.cons (cs:=[c]) hz (Elems.replicate h1 hz m)

theorem QPw (c:Value) (m:Nat):(madeCells #[c] m).toList=Ed m c:=by
 apply List.ext_getElem
 ·simp [madeCells]
 simp_all [madeCells,Nat.mod_one]

theorem Qza {α:Type} [Rep α] {e:TypeId} {bytes:Nat} {c:Value} {L:List Value} {i:Int} {zero:α} {xs:List α} {k k':IntKind} {K:Value->World->Prop} (h1:Rep.n α=1) (hu:P.underlying T=some (.slice e)) (hi:EInfo P e 1 bytes c) (hcc:c.cells=#[c])
    (hbm:Eb bytes 65536=true) (hz:∀ L w,Rep.rd L w [c] zero) (hx:Qr n ρ x=.int k i) (hy:Qr n ρ y=.int k' i) (hm:mk i zero=some xs)
    (h:∀ v w',Ext w w'->(∀ b,Qq v=some b->w.heap.size<=b)->Own e (v::L) w' v xs->K v w'):Eff P ⟨d,.makeSlice T x y,t,p,af,gu⟩ n ρ w K:=by
  obtain ⟨h0,hmax,rfl⟩:=Qnv hm;obtain ⟨ti,g1,g2,g3,g4,_,_⟩:=hi.ex;have hbm:bytes<=65536:=by simpa using hbm
  obtain ⟨m,rfl⟩:∃ m:Nat,i=(m:Int):=⟨i.toNat,by omega⟩;have hmm:m<=1048576:=by omega
  have hb:ti.bytes * m<=281474976710656:=by
    rw [g3]
    calc bytes * m<=65536 * 1048576:=El hbm hmm
      _<=_:=by decide
  refine JA (Yn (Qwo _ _ _)) fun w1 e1=>?_;obtain ⟨w',hr,ho,hg⟩:=run_makeSlice_full (P:=P) (w:=w1) 0 T e ti c 1 hu g1 g4 g2 k k' m (by omega) hb (by unfold maxLen;omega) (Ew _);have he:Ext w1 w':=⟨hg.os,hg.tape,hg.output,hg.size,fun b hb _=>hg.block b hb (fun e=>by cases e)⟩;simp only [execOp,hx,hy,Sem.run_bind,hr,Result.andThen,Sem.run_pure,effR];refine h _ w' (e1.trans he) (fun b hb=>by have:=e1.size;grind [Qq]) ⟨(madeCells c.cells (m * 1)).toList,?_,?_⟩
  · simp_all
  simp_all [Ef,QPw,Int.toNat_natCast,Elems.replicate]
end
end Go.Gw

end
section
set_option linter.unusedSectionVars false
namespace Go.Gw
open Go
section
variable {P:Program} [JD P] {n:Nat} {ρ:Env} {w:World}
variable {d:Option Nat} {t T U:TypeId} {p:String} {af:Array Edge} {gu:Option (Nat×Bool)} {x y z:Operand}

theorem Q1i {e m sz:Nat} {a:Addr} (hu:P.underlying T=some (.array m e)) (hs:Xr P e sz) (hm:0 < m) (hx:Qr n ρ x=.pointer (some a)) :
  Yl P n ρ ⟨d,.slice T x none none none,t,p,af,gu⟩ w (.slice (some (a.add (0 * sz))) m m):=by
 have h:¬ m=0:=by omega
 exact Zf (Yn (Qcg _ _ _ _ _)) fun w1 _=>by simp [execOp,hx,Instr.sliceAt,run_underlying hu,Instr.sureAddr,Instr.sliceBounds,Zs hs,h]
theorem SlRd.of_box {b off len cap:Nat} {ys:List Int} {cs:List Value} {T':TypeId} {L:List Value} (hb:Box w b cs T') (hA:Avoids L b) (hcs:(cs.drop off).take len=ys.map (Value.int .i64)) (hl:ys.length=len) (hlc:len<=cap) (hc:Eb (off+cap) cs.length=true) (hm:Eb cap 1048576=true) :
  SlRd L w (.slice (some ⟨b,off,none⟩) len cap) ys:=by
 subst hl;have hc:off+cap<=cs.length:=by simpa using hc
 have hm:cap<=1048576:=by simpa using hm
 refine .inr ⟨b,off,cap,cs.toArray,T',(0,0),rfl,hb,hA,hlc,by unfold maxLen;omega,by show off+cap * 1<=_;simp;omega,?_⟩;have:ys.length * Rep.n Int=ys.length:=Ef _;rw [this,show cs.toArray.toList=cs from rfl,hcs];refine ⟨by simp [this],fun i x hx=>?_⟩;show ((ys.map (Value.int .i64)).drop (i * 1)).take 1=[.int .i64 x];obtain ⟨hi,he⟩:=Eh.1 hx;simp_all [Ef,Ek]

theorem QGz {e m sz:Nat} {a:Addr} {v:Value} (hu:P.underlying T=some (.array m e)) (hs:Xr P e sz) (hm:Nat.blt 0 m=true) (hx:Qr n ρ x=.pointer (some a)) (hv:v=.slice (some (a.add (0 * sz))) m m) :
  Yl P n ρ ⟨d,.slice T x none none none,t,p,af,gu⟩ w v:=by grind [Q1i,Nat.blt_eq]
theorem Qaf {L:List Value} {b:Nat} (hL:LtL L w) (hb:w.heap.size<=b):Avoids L b:=fun x hx e=>by have:=hL x hx b e;omega
end
end Go.Gw
namespace Go.Gw
end Go.Gw

end
section
set_option linter.unusedSectionVars false
namespace Go.Gw
open Go
section
variable {P:Program} [JD P] {n:Nat} {ρ:Env} {w:World}
theorem QHg {ops:Array Oper} {K:Env->World->Prop} {o:Oper} {os:List Oper} (Φ:Value->World->Prop) (b:Bool) (hw:XU ops o n ρ=b) (ht:b=true->Eff P o n ρ w (fun v w'=>Ext w w'/\Φ v w'))
    (h:∀ v w',Ext w w'->(b=true->Φ v w')->T0 P n ops K os (Xv ρ o.dst (gd b v)) w'):T0 P n ops K (o::os) ρ w :=
  Qxf b hw (fun hb=>(ht hb).mono fun v w' ⟨he,hv⟩=>by grind [Qm])
    (fun hb=>by simp_all [Qja,undef,Chg.refl])
end
end Go.Gw

end
section
set_option linter.unusedSectionVars false
namespace Go.Gw
open Go
section
variable {P:Program} [JD P] {n:Nat} {q:Post} {ρ:Env} {w:World}
end
end Go.Gw

end
section
set_option linter.unusedSectionVars false
namespace Go.Gw
open Go
section
variable {P:Program} [JD P] {n:Nat} {ρ:Env} {w w':World}
variable {d:Option Nat} {t T U:TypeId} {p:String} {af:Array Edge} {gu:Option (Nat×Bool)} {x y z:Operand}
theorem Qbf {f:FuncId} {cap:Array Operand} {cs:List Value} (h:(cap.map (Qr n ρ)).toList=cs):Yl P n ρ ⟨d,.makeFunc (.func f) #[] cap,t,p,af,gu⟩ w (.func (.func f) #[] cs.toArray):=by
 have e:cap.map (Qr n ρ)=cs.toArray:=by rw [<-h]
 simp_all [Yo,execOp,Instr.makeFunc]
theorem Qbz {f : FuncId} {fn : Func} {c : Code} {xs : Array Operand} {aT : Array TypeId} {cs us args : List Value} {K Φ : Value → World → Prop} (hy : Qr n ρ y = .func (.func f) #[] cs.toArray) (hf : P.funcs[f]? = some fn) (hname : (fn.name == "runtime.NumGoroutine") = false) (hb : fn.body = some c)
    (ha:(xs.map (Qr n ρ)).toList=us) (hargs:us++cs=args) (hc:CallsTo P f args w Φ) (h:∀ v w',Φ v w'->K v w'):Eff P ⟨d,.call ⟨.value y,xs,aT⟩,t,p,af,gu⟩ n ρ w K:=by
  have e:xs.map (Qr n ρ)=us.toArray:=by rw [<-ha]
  have this:∀ w es,(execOp (Qr n ρ) ⟨d,.call ⟨.value y,xs,aT⟩,t,p,af,gu⟩).runT P w es=(.ok (.enter f args.toArray) w,es):=fun w es=>by
    subst hargs;refine Eq.trans ?_ (Qpi (args:=(us++cs).toArray) hf hname hb);simp_all [execOp,resolve,Deferred.ofValue,invoke,pure_bind,List.append_toArray,List.nil_append]
  refine ⟨(Tame.still _ this).fr,.inr fun w1 r=>?_⟩;rw [show (execOp (Qr n ρ) ⟨d,.call ⟨.value y,xs,aT⟩,t,p,af,gu⟩).run P w1=_ from by rw [<-Sem.runT_fst P _ w1 #[],this]];exact CallsJ.rely (CallsTo.mono hc h) r
def Qcm (H:List Value) (w:World) (b:Nat):Prop:=w.heap.size<=b\/¬ Avoids H b
theorem Chg.freshH {H0 H:List Value} {a b c:World} (h:Chg H0 a b) (k:Chg H b c) (hf:∀ x∈H,∀ n,Qq x=some n->Qcm H0 a n):Chg H0 a c :=
 ⟨k.os.trans h.os,k.tape.trans h.tape,k.output.trans h.output,Eo h.size k.size,fun i hi hA=>(k.block i (Nat.lt_of_lt_of_le hi h.size) (fun x hx e=>by
  rcases hf x hx i e with h1 | h1
  ·omega
  grind)).trans (h.block i hi hA)⟩
theorem Chg.thenE {H:List Value} {a b c:World} (h:Chg H a b) (e:Ext b c):Chg H a c:=h.trans (e.mono (fun _ h=>by cases h))
theorem Qby {H:List Value} {v:Value} {w0:World} (h:Chg H w0 w) (c:Chg [v] w w') (hf:∀ b,Qq v=some b->Qcm H w0 b):Chg H w0 w':=Chg.freshH h c (fun x hx n e=>by simp_all)
theorem Stepp.swap2 {L:List Value} {v v':Value} {b:Nat} (h:Chg [v,.pointer (some ⟨b,0,none⟩)] w w') (hv:∀ k,Qq v'=some k->Qq v=some k\/w.heap.size<=k):Stepp (v::.pointer (some ⟨b,0,none⟩)::L) w (v'::.pointer (some ⟨b,0,none⟩)::L) w' :=
 .of (h.mono (fun y hy=>by
  grind)) fun y hy k e=>by
  grind [Qec,En,List.mem_cons_self]
theorem Qlv {v:Value} {b b':Nat} (h:Qq v≠some b) (h2:b'≠b):Avoids [v,.pointer (some ⟨b',0,none⟩)] b:=fun x hx e=>by
 grind [Eg,Qq]
theorem Qdo {v:Value} {b:Nat} {w0:World} (h:Ext w0 w) (c:Chg [v,.pointer (some ⟨b,0,none⟩)] w w') (hf:∀ k,Qq v=some k->w0.heap.size<=k) (hb:w0.heap.size<=b):Ext w0 w':=Chg.fresh h c (fun x hx n e=>by
 grind [Eg,Qq])
theorem Qyg {v:Value} {hi k:Nat}:Qq (ZC v 0 hi k)=Qq v:=by
 cases v<;>try rfl
 rename_i a len cap;cases a with
 | none=>simp [ZC,Qq]
 | some a =>
  simp_all [Es,Qq,Addr.add,ZC,Eu]
theorem Own.cutf {α:Type} [Rep α] {e:TypeId} {L:List Value} {v:Value} {xs ys:List α} {hi:Int} (h:Own e L w v xs) (hc:cut xs 0 hi=some ys):Own e L w (ZC v 0 hi.toNat (Rep.n α)) ys:=by
  obtain ⟨h0,h1,h2,rfl⟩:=Qgf hc;obtain ⟨cells,⟨hl,ho⟩,hel⟩:=h;have hk:hi.toNat<=xs.length:=by omega
  have hlen:((xs.take hi.toNat).drop (0:Int).toNat).length=hi.toNat:=by simp;omega
  have ht:(xs.take hi.toNat).drop (0:Int).toNat=xs.take hi.toNat:=by simp
  have hle:hi.toNat * Rep.n α<=cells.length:=by simp_all [Ea]
  refine ⟨cells.take (hi.toNat * Rep.n α),⟨by simp_all,?_⟩,?_⟩
  · rcases ho with ⟨rfl,hz⟩ | ⟨g,cap,cur,rfl,hb,hh,h4,h5,h6,h7⟩
    · grind [ZC]
    · right;refine ⟨g,cap,cur,?_,hb,hh,by omega,h5,h6,?_⟩
      · simp_all [Es,Y1,ZC,Eu,Nat.sub_zero]
      grind
  · rw [ht];refine ⟨by simp_all,fun i x hx=>?_⟩;have hi2:i < hi.toNat:=by
      grind
    rw [Ec hi2] at hx;have:=hel.2 i x hx;have hlt:i * Rep.n α+Rep.n α<=hi.toNat * Rep.n α:=by rw [<-Ep];exact Ea _ hi2
    grind [Nat.min_eq_left,List.drop_take]
theorem Q0r {α:Type} [Rep α] {e e2:TypeId} {L:List Value} {w2:World} {v:Value} {xs ys:List α} {k':IntKind} {hi:Int} (hu:P.underlying T=some (.slice e)) (hz:Xr P e (Rep.n α)) (hs:Own e2 L w2 v xs) (hc:cut xs 0 hi=some ys)
  (hx:Qr n ρ x=v) (hh:Qr n ρ z=.int k' hi):Yl P n ρ ⟨d,.slice T x none (some z) none,t,p,af,gu⟩ w (ZC v 0 hi.toNat (Rep.n α)) :=
 Qbs hu hz ((hs.sub (L':=[]) (fun _ h=>by cases h)).rd (fun b _=>Avoids.nil b)) hc hx hh
theorem Stepp.ren {L:List Value} {v v':Value} (h:Qq v'=Qq v):Stepp (v::L) w (v'::L) w:=Stepp.swap (Chg.refl _ _) (fun b hb=>.inl (by simp_all))
end
end Go.Gw

end
section
set_option linter.unusedSectionVars false
namespace Go.Gw
open Go
def Qhk (k:IntKind) (a b:Int):Option Int:=if 0<=b/\b<=k.bits then some (a.fdiv (2 ^ b.toNat)) else none
section
variable {P:Program} [JD P] {n:Nat} {ρ:Env} {w w':World}
variable {d:Option Nat} {t T U:TypeId} {p:String} {af:Array Edge} {gu:Option (Nat×Bool)} {x y z:Operand}
theorem Qqp {k yk:IntKind} {a b c:Int} (h:Qhk k a b=some c) (hx:Qr n ρ x=.int k a) (hy:Qr n ρ y=.int yk b):Yl P n ρ ⟨d,.binOp .shr T x y U,t,p,af,gu⟩ w (.int k c):=by
 unfold Qhk at h;split at h
 ·rename_i hb;cases h;have h1:¬ b < 0:=by omega
  have h2:min b.toNat k.bits=b.toNat:=by omega
  exact Yo fun w es=>by simp [execOp,hx,hy,eqGuard,binOp,Op.shift,h1,h2]
 ·cases h
end
theorem QMh {w:World} {a:Addr} {xs:List Int} {i el:Int} {k:IntKind} (h:At w a (xs.map (Value.int k))) (hi:idx xs i=some el):At w (a.add (i.toNat * 1)) [.int k el] :=
 At.elem h (by rw [Em,(Qah hi).2.2];rfl)
end Go.Gw

end
section
set_option linter.unusedSectionVars false
namespace Go.Gw
open Go
def isnil:Value->Bool
 | .slice none _ _=>true
 | _=>false
section
variable {P:Program} [JD P] {n:Nat} {ρ:Env} {w w':World}
variable {d:Option Nat} {t T U:TypeId} {p:String} {af:Array Edge} {gu:Option (Nat×Bool)} {x y z:Operand}
theorem Qxa {α:Type} [Rep α] {e:TypeId} {L:List Value} {w2:World} {v:Value} {xs:List α} (hu:P.underlying T=some (.slice e)) (hs:SlRd L w2 v xs) (hx:Qr n ρ x=v) (hy:Qr n ρ y=.slice none 0 0) :
  Yl P n ρ ⟨d,.binOp .eql T x y U,t,p,af,gu⟩ w (.bool (isnil v)):=by
 have:∃ a m c,v=.slice a m c:=by
  rcases hs with ⟨a0,h,_⟩ | ⟨b,off,cap,cur,e,fz,h1,_⟩
  ·simp_all
  simp_all
 obtain ⟨a,m,c,rfl⟩:=this;have h1:∀ w,(Op.equal T (.slice a m c) (.slice none 0 0)).run P w=.ok a.isNone w:=fun w=>by
  grind [Op.equal,Op.maxDepth,Lib.run_equalIn_slice_nil]
 have ht:Tame P (Op.equal T (.slice a m c) (.slice none 0 0)):=by
  rw [Op.equal,show Op.maxDepth=9999+1 from rfl,Op.equalIn];refine .und hu ?_;cases a<;>exact .pure _
 have h2:a.isNone=isnil (.slice a m c):=by cases a<;>rfl
 rw [<-h2];exact Zf (Yn (by simp only [eqGuard,binOp,hx,hy];exact .bnd (.pure _) fun _=>.bnd ht fun _=>.pure _)) fun w1 _=>by simp_all [execOp,eqGuard,binOp,Result.andThen]
theorem SlRd.isnil {α:Type} [Rep α] {L:List Value} {v:Value} {xs:List α} (hs:SlRd L w v xs) (h:isnil v=true):xs=[]:=by
 rcases hs with ⟨a0,rfl,h2⟩ | ⟨b,off,cap,cur,e,fz,rfl,_⟩
 ·exact h2
 ·cases h
theorem Qtz {α β:Type} {xs:List α} {f:List α->Option β} {e:Option β} {r:β} (h0:xs=[]) (h:f xs=some r) (he:f []=e):e=some r:=by simp_all
end
end Go.Gw

end
section
set_option linter.unusedSectionVars false
namespace Go.Gw
open Go
def U8:Type:=Int
instance:Rep U8:=⟨1,fun _ _ cs d=>cs=[.int .u8 d],fun h=>by subst h;rfl,fun h=>by grind [Value.oneCell'],fun _ h=>h⟩
def bl (s:ByteArray):List U8:=s.data.toList.map fun b=>((b.toNat:Nat):Int)
theorem ZY (s:ByteArray):(bl s).length=s.size:=by
 show (Ex (fun b:UInt8=>((b.toNat:Nat):Int)) s.data.toList).length=s.size;simp
theorem Qye (a b:ByteArray):(a.toList == b.toList)=decide (a=b):=by
 rw [ByteArray.toList_eq,ByteArray.toList_eq];by_cases h:a=b
 ·grind
 ·have:¬ a.data.toList=b.data.toList:=fun e=>h (by cases a;simp_all)
  simp_all
def ZP (a b:ByteArray):Option ByteArray:=if a.size+b.size<=1048576 then some (a++b) else none
def tob (s:ByteArray):Option (List U8):=if s.size<=1048576 then some (bl s) else none
section
variable {P:Program} [JD P] {n:Nat} {ρ:Env} {w:World}
variable {d:Option Nat} {t T U:TypeId} {p:String} {af:Array Edge} {gu:Option (Nat×Bool)} {x y z:Operand}
theorem Qfx {a b:ByteArray} (hx:Qr n ρ x=.string a) (hy:Qr n ρ y=.string b):Yl P n ρ ⟨d,.binOp .eql T x y U,t,p,af,gu⟩ w (.bool (decide (a=b))):=Yo fun w es=>by
 simp_all [execOp,eqGuard,binOp,Op.stringOp,Qye]
theorem Q1f {a b:ByteArray} (hx:Qr n ρ x=.string a) (hy:Qr n ρ y=.string b):Yl P n ρ ⟨d,.binOp .neq T x y U,t,p,af,gu⟩ w (.bool (!decide (a=b))):=Yo fun w es=>by
 simp_all [execOp,eqGuard,binOp,Op.stringOp,bne,Qye]
theorem JP {a b c:ByteArray} (h:ZP a b=some c) (hx:Qr n ρ x=.string a) (hy:Qr n ρ y=.string b):Yl P n ρ ⟨d,.binOp .add T x y U,t,p,af,gu⟩ w (.string c):=Yo fun w es=>by
 unfold ZP at h;split at h
 ·rename_i hc;cases h;have:¬ ((a.size+b.size:Nat):Int) > IntKind.i64.max:=by simp [IntKind.max,IntKind.bits,IntKind.signed];omega
  simp_all [execOp,eqGuard,binOp,Op.stringOp,if_neg]
 ·cases h
theorem QMr {s:ByteArray} {i:Int} {el:U8} (h:idx (bl s) i=some el):(if 0<=i then s[i.toNat]? else none)=some (UInt8.ofNat (Int.toNat el))/\(((UInt8.ofNat (Int.toNat el)).toNat:Nat):Int)=el:=by
 obtain ⟨h0,h1,h2⟩:=Qah h;rw [ZY] at h1;rw [if_pos h0,ByteArray.getElem?_lt' s _ h1];replace h2:((s.data.toList.map fun b=>((b.toNat:Nat):Int)):List Int)[i.toNat]?=some (el:Int):=h2;rw [Em] at h2;obtain ⟨b,hb,hbe⟩:=Ee.1 h2;subst hbe;have e:s[i.toNat]=b:=by
  rw [Eh] at hb;obtain ⟨_,hb⟩:=hb;trivial
 simp_all
theorem Qlk {k:IntKind} {s:ByteArray} {i:Int} {el:U8} (hu:P.underlying T=some .string) (hx:Qr n ρ x=.string s) (hy:Qr n ρ y=.int k i) (h:idx (bl s) i=some el):Yl P n ρ ⟨d,.index T x y,t,p,af,gu⟩ w (.int .u8 el):=by
 obtain ⟨h1,h2⟩:=QMr h;refine Zf (Yn (QGa _ _ _)) fun w1 _=>?_;simp_all [execOp,Instr.index,asIntOf,pure_bind,Sem.run_bind,run_underlying,Result.andThen,Sem.run_pure]
def J4 (s:ByteArray) (cap:Nat):Array Value:=s.data.map (fun b=>Value.int .u8 b.toNat)++Array.replicate (cap - s.size) (.int .u8 0)
def Qkv (e:TypeId) (s:ByteArray):Sem Value:=do
 let cap <-choose (.appendCap s.size 0 e)
 let b <-newObj (.cells (J4 s cap) e ((J4 s cap).size,(J4 s cap).size+1))
 pure (.slice (some ⟨b,0,none⟩) s.size cap)
theorem QFi (e:TypeId) (s:ByteArray) (w:World) (es:Array Event):(Conv.stringToBytes e s).runT P w es=(Qkv e s).runT P w es:=by
 unfold Conv.stringToBytes Qkv markStringish;rw [show (choose (.appendCap s.size 0 e) >>= _:Sem Value)=(choose (.appendCap s.size 0 e)).bind _ from rfl,Go.Sem.runT_bind'];rw [show (choose (.appendCap s.size 0 e) >>= _:Sem Value)=(choose (.appendCap s.size 0 e)).bind _ from rfl,Go.Sem.runT_bind'];generalize (choose (.appendCap s.size 0 e)).runT P w es=r;obtain ⟨r,es⟩:=r;cases r with
 | halt h w=>rfl
 | ok cap w =>
  simp only [newRow,newObj,shape,freeze,Bind.bind,Sem.bind,Pure.pure,Sem.runT,World.shape?,Array.getElem?_push_size];unfold World.freeze;simp only [Nat.one_ne_zero,if_false];congr 2;congr 1;apply Array.ext_getElem?;intro i;rw [Array.getElem?_modify,Array.getElem?_push,Array.getElem?_push];by_cases hi:w.heap.size=i
  ·grind [J4]
  grind
theorem QZe (e:TypeId) (s:ByteArray):Tame P (Conv.stringToBytes e s) :=
 .same _ _ (QFi e s) (.bnd (Qfq _) fun cap=>.bnd (Qld _ rfl) fun b=>.pure _)
theorem QYu {e:TypeId} {s:ByteArray} (hu:P.underlying T=some .string) (hU:P.underlying U=some (.slice e)) (he:P.underlying e=some (.int .u8)):Tame P (convert T U (.string s)):=by
 unfold convert;exact .und hu (.und hU (.und he (QZe _ _)))
theorem QKh (s:ByteArray) (cap:Nat) (L:List Value):Elems L w (((J4 s cap).toList.drop 0).take (s.size * Rep.n U8)) (bl s):=by
 have e1:Rep.n U8=1:=rfl;have hl:(s.data.toList.map fun b=>Value.int .u8 b.toNat).length=s.size:=by simp
 have e2:((J4 s cap).toList.drop 0).take (s.size * Rep.n U8)=s.data.toList.map fun b=>Value.int .u8 b.toNat:=by
  simp_all [List.take_append_of_le_length,Nat.le_refl,List.take_of_length_le,J4,Array.toList_append,Array.toList_map,Ef,List.drop_zero]
 rw [e2];refine ⟨by rw [hl,ZY,e1,Ef],fun i x hx=>?_⟩;rw [e1,Ef];replace hx:((s.data.toList.map fun b=>((b.toNat:Nat):Int)):List Int)[i]?=some (x:Int):=hx;rw [Em] at hx;obtain ⟨b,hb,hbe⟩:=Ee.1 hx;subst hbe;show ((s.data.toList.map fun b=>Value.int .u8 b.toNat).drop i).take 1=[.int .u8 (b.toNat:Int)]
 grind [Ek,List.length_map,Eh]
theorem QKb {e:TypeId} {s:ByteArray} {xs:List U8} {L:List Value} {K:Value->World->Prop} (hu:P.underlying T=some .string) (hU:P.underlying U=some (.slice e)) (he:P.underlying e=some (.int .u8)) (hx:Qr n ρ x=.string s) (hs:tob s=some xs) (hlt:LtL L w)
    (h:∀ v w',Ext w w'->SlRd L w' v xs->K v w'):Eff P ⟨d,.convert T U x,t,p,af,gu⟩ n ρ w K:=by
  unfold tob at hs;split at hs
  · rename_i hsz;cases hs;refine JA (Yn (by grind [QYu])) fun w1 e1=>?_;have hrun:(convert T U (.string s)).run P w1=(Qkv e s).run P w1:=by
      have h1:=QFi (P:=P) e s w1 #[];simp_all [Sem.runT_fst,convert,Conv.stringToBytes,run_underlying]
    generalize hcap:Question.cut (.appendCap s.size 0 e) (w1.tape w1.drawn (.appendCap s.size 0 e))=cap;have hcb:s.size<=cap/\cap<=maxLen:=by
      rw [<-hcap];simp only [Question.cut];have:=Nat.mod_lt (w1.tape w1.drawn (.appendCap s.size 0 e)) (show 0 < 2 ^ 63 - s.size by omega)
      grind [maxLen]
    have hr2:(Qkv e s).run P w1=.ok (.slice (some ⟨w1.heap.size,0,none⟩) s.size cap) { w1 with drawn:=w1.drawn+1,heap:=w1.heap.push (.cells (J4 s cap) e ((J4 s cap).size,(J4 s cap).size+1)) }:=by
      simp [Qkv,choose,newObj,Sem.run,Question.forced,hcap,Bind.bind,Sem.bind,Pure.pure]
    simp only [execOp,hx,Sem.run_bind,hrun,hr2,Result.andThen,Sem.run_pure,effR];refine h _ _ (e1.trans ⟨rfl,rfl,rfl,by simp,fun b hb _=>by grind⟩) ?_;refine .inr ⟨w1.heap.size,0,cap,J4 s cap,e,((J4 s cap).size,(J4 s cap).size+1),by rw [ZY],by simp,fun x hx e=>?_,by grind [ZY],hcb.2,?_,?_⟩
    · have:=hlt x hx _ e;have:=e1.size;omega
    · simp_all [J4,Rep.n,U8]
    grind [ZY,QKh]
  · cases hs
end
end Go.Gw

end
section
set_option linter.unusedSectionVars false
namespace Go.Gw
open Go
section
variable {P:Program} [JD P] {n:Nat} {ρ:Env} {w:World}
variable {d:Option Nat} {t T U:TypeId} {p:String} {af:Array Edge} {gu:Option (Nat×Bool)} {x y z:Operand}

def cutf (v:Value) (hi k:Nat):Value:=match v with
 | .slice a _ _=>.slice (if hi=0 then a else a.map (·.add (0 * k))) hi hi
 | v=>v
def Qlp (v:Value):Prop:=∃ a k,v=.slice a k k

theorem SlRd.cutF {α:Type} [Rep α] {L:List Value} {w:World} {v:Value} {xs ys:List α} {hi:Int} (hs:SlRd L w v xs) (hc:Gw.cut xs 0 hi=some ys):SlRd L w (cutf v hi.toNat (Rep.n α)) ys:=by
  obtain ⟨h0,h1,h2,rfl⟩:=Qgf hc;have hk:hi.toNat<=xs.length:=by omega
  rcases hs with ⟨a0,rfl,rfl⟩ | ⟨b,off,cap,cur,e,fz,rfl,hb,hA,h4,h5,h6,h7⟩
  · have:hi=0:=by grind
    subst this;exact .inl ⟨a0,by rfl,by simp⟩
  · have hlen:((xs.take hi.toNat).drop (0:Int).toNat).length=hi.toNat:=by simp;omega
    have ht:(xs.take hi.toNat).drop (0:Int).toNat=xs.take hi.toNat:=by simp
    have hmul:=Ea (Rep.n α) hk;have hmul2:=Ea (Rep.n α) h4;refine .inr ⟨b,off,hi.toNat,cur,e,fz,?_,hb,hA,by omega,by omega,by omega,?_⟩
    · simp_all [Es,Eu,Y1,cutf]
    · rw [hlen,ht];refine ⟨by grind,fun i x hx=>?_⟩;have hi2:i < hi.toNat:=by
        grind
      rw [Ec hi2] at hx;have:=h7.2 i x hx;have hlt:i * Rep.n α+Rep.n α<=hi.toNat * Rep.n α:=by rw [<-Ep];exact Ea _ hi2
      grind [Nat.min_eq_left,List.drop_take]
theorem Q0q {α:Type} [Rep α] {e:TypeId} {L:List Value} {w2:World} {v:Value} {xs ys:List α} {k k':IntKind} {hi:Int} {u:Operand} (hu:P.underlying T=some (.slice e)) (hz:Xr P e (Rep.n α)) (hs:SlRd L w2 v xs) (hc:cut xs 0 hi=some ys)
  (hx:Qr n ρ x=v) (hh:Qr n ρ z=.int k hi) (hm:Qr n ρ u=.int k' hi):Yl P n ρ ⟨d,.slice T x none (some z) (some u),t,p,af,gu⟩ w (cutf v hi.toNat (Rep.n α)):=by
 obtain ⟨h0,h1,h2,_⟩:=Qgf hc;obtain ⟨a,cap,hv,_⟩:=hs.shape;have hcap:xs.length<=cap:=by
  rcases hs with ⟨a0,rfl,rfl⟩ | ⟨b,off,cap',cur,e,fz,rfl,hb,hA,h4,_⟩
  ·simp
  simp_all
 subst hv;refine Zf (Yn (Qcg _ _ _ _ _)) fun w1 _=>?_;have e1:=Qhh (P:=P) (w:=w1) (k:=k') (i:=hi) (y:=cap) (c:=.slice3Acap) (by omega) (by omega);have e2:=Qhh (P:=P) (w:=w1) (k:=k) (i:=hi) (y:=hi.toNat) (c:=.slice3B) (by omega) (by omega);simp [execOp,hx,hh,hm,Instr.sliceAt,Instr.slice,run_underlying hu,Instr.sliceBounds,e1,e2,Zs hz,cutf]

theorem QWh {α:Type} [Rep α] {e:TypeId} {bytes:Nat} {zz:Value} {L:List Value} {v vx:Value} {xs ys:List α}
    (hu:P.underlying T=some (.slice e)) (hi:EInfo P e (Rep.n α) bytes zz) (hr:SlRd L w v xs) (hf:Qlp v) (hs:SlRd L w vx ys) (hne:0 < ys.length)
    (hb:(xs.length+ys.length) * bytes<=140737488355328) (hm:xs.length+ys.length<=maxLen) :
    ∃ v' w',(Builtin.append_ #[T,T] t #[v,vx]).run P w=.ok v' w'/\Ext w w'/\(∀ b,Qq v'=some b->w.heap.size<=b)/\Own e (v'::L) w' v' (xs++ys):=by
  obtain ⟨i,h1,h2,h3,h4,h5,h6⟩:=hi.ex;rcases hs with ⟨a0,rfl,rfl⟩ | ⟨b,off,cap,cur,e',fz,rfl,hblk,hA,hcap,hcm,hsz,hely⟩
  · simp at hne
  have hnl:(((cur.toList.drop off).take (ys.length * Rep.n α))).length=ys.length * Rep.n α:=hely.1;have hnews:∀ j u,((cur.toList.drop off).take (ys.length * Rep.n α))[j]?=some u->w.cell? ((⟨b,off,none⟩:Addr).add j)=some u:=fun j u hu=>by
    grind [World.cell?,Ec,Rep.n,Er,Ej,Y1]
  -- what lies there
  obtain ⟨olds,hol,hoe⟩:∃ olds:List Value,olds.length=xs.length * Rep.n α/\Elems L w olds xs:=by
    rcases hr with ⟨a0,rfl,rfl⟩ | ⟨_,_,_,_,_,_,_,_,_,_,_,_,h7⟩
    · simp_all [Elems.nil]
    · exact ⟨_,h7.1,h7⟩
  have grown : ∀ (olds : List Value), olds.length = xs.length * Rep.n α -> Elems L w olds xs -> (Builtin.append_ #[T, T] t #[v, .slice (some ⟨b, off, none⟩) ys.length cap]).run P w = .ok (.slice (some ⟨w.heap.size, 0, none⟩) (xs.length + ys.length) (grownCap w (xs.length + ys.length) xs.length e)) (w.drew.alloc (.cells (olds.toArray ++ ((cur.toList.drop off).take (ys.length * Rep.n α)).toArray ++ Builtin.zeroCells zz.cells (grownCap w (xs.length + ys.length) xs.length e - (xs.length + ys.length))) e)) ->
      ∃ v' w',(Builtin.append_ #[T,T] t #[v,.slice (some ⟨b,off,none⟩) ys.length cap]).run P w=.ok v' w'/\Ext w w'/\(∀ b,Qq v'=some b->w.heap.size<=b)/\Own e (v'::L) w' v' (xs++ys):=fun olds hol hoe hr=>by
    have hge:=grownCap_ge w (xs.length+ys.length) xs.length e;have hcm:grownCap w (xs.length+ys.length) xs.length e<=maxLen:=grownCap_le_maxLen w _ _ e hm;have hE:Ext w (w.drew.alloc (.cells (olds.toArray++((cur.toList.drop off).take (ys.length * Rep.n α)).toArray++Builtin.zeroCells zz.cells (grownCap w (xs.length+ys.length) xs.length e - (xs.length+ys.length))) e)) :=
      ⟨rfl,rfl,rfl,by simp,fun k hk _=>heap_alloc_old w.drew _ hk⟩
    have hfr:∀ k,Qq (.slice (some ⟨w.heap.size,0,none⟩) (xs.length+ys.length) (grownCap w (xs.length+ys.length) xs.length e))=some k->w.heap.size<=k:=fun k hk=>by grind [Qq]
    have hlen:(olds++((cur.toList.drop off).take (ys.length * Rep.n α))).length=(xs.length+ys.length) * Rep.n α:=by grind
    refine ⟨_,_,hr,hE,hfr,olds++((cur.toList.drop off).take (ys.length * Rep.n α)),⟨by simp_all,.inr ⟨w.heap.size,_,_,by simp,Ew _,heap_alloc_new w.drew _,by simp_all,hcm,?_,?_⟩⟩,?_⟩
    · simp only [Array.size_append,List.size_toArray,size_zeroCells,h5,hol,hnl,<-Nat.add_mul];simp_all
    · grind
    · exact (hoe.append hely).step (Stepp.add _ hE hfr)
  obtain ⟨a,k,hv⟩:=hf;rcases hr with ⟨a0,rfl,rfl⟩ | ⟨b2,off2,cap2,cur2,e2,fz2,rfl,hblk2,hA2,hcap2,hcm2,hsz2,hely2⟩
  · refine grown [] (by simp) Elems.nil ?_;cases a0 with
    | none =>
      have hr:=run_append_nil (P:=P) w T t e i zz hu h1 h4 ⟨b,off,none⟩ ys.length cap _ (by simp_all) hnews hne (by simp only [List.length_nil,Nat.zero_add] at hm;grind [maxLen]) (by grind);simpa using hr
    | some a0 =>
      have hr:=run_append_grow (P:=P) w T t e i zz hu h1 h4 a0 0 0 [] (by simp) (fun j v hv=>by simp at hv) ⟨b,off,none⟩ ys.length cap _ (by simp_all) hnews (by omega) (by simp only [List.length_nil,Nat.zero_add] at hm;grind [maxLen]) (growslice_fits (by omega) (by grind));omega
  · cases hv;have holds:∀ j u,((cur2.toList.drop off2).take (xs.length * Rep.n α))[j]?=some u->w.cell? ((⟨b2,off2,none⟩:Addr).add j)=some u:=fun j u hu=>by
      grind [World.cell?,Ec,Rep.n,Er,Ej,Y1]
    refine grown _ hely2.1 hely2 ?_;exact run_append_grow (P:=P) w T t e i zz hu h1 h4 ⟨b2,off2,none⟩ xs.length xs.length _ (by grind) holds ⟨b,off,none⟩ ys.length cap _ (by simp_all) hnews (by omega) (by grind [maxLen]) (growslice_fits (by omega) (by simp_all))

theorem QWj {α:Type} [Rep α] {e:TypeId} {bytes:Nat} {zz:Value} {L:List Value} {v vx:Value}
  (hu:P.underlying T=some (.slice e)) (hi:EInfo P e (Rep.n α) bytes zz) (hf:Qlp v) (hs:SlRd L w vx ([]:List α)):(Builtin.append_ #[T,T] t #[v,vx]).run P w=.ok v w:=by
 obtain ⟨i,h1,h2,h3,h4,h5,h6⟩:=hi.ex;obtain ⟨av,k,rfl⟩:=hf;obtain ⟨a0,c,rfl,_⟩:=hs.shape;have hl0:∀ a:Addr,(loadCells a 0).run P w=.ok #[] w:=fun a=>run_loadCells_list (P:=P) w a [] (fun j v hv=>by simp at hv)
 simp [Builtin.append_,run_underlying hu,sizeOf,typeInfo,h1,Builtin.lenOf,Builtin.firstCells];cases av<;>cases a0<;>simp [storeCells,hl0]
theorem ZJ {α:Type} [Rep α] {e:TypeId} {bytes:Nat} {zz:Value} {L:List Value} {v vx:Value} {xs ys zs:List α} {K:Value->World->Prop} {aT:Array TypeId}
  (hu:P.underlying T=some (.slice e)) (hi:EInfo P e (Rep.n α) bytes zz) (hbm:Eb bytes 65536=true) (hT:aT=#[T,T]) (hx:Qr n ρ x=v) (hy:Qr n ρ y=vx) (hown:Own e (v::L) w v xs) (hf:Qlp v) (hs:SlRd (v::L) w vx ys)
  (hz:app xs ys=some zs)
  (h:∀ v' w',Ext w w'->(∀ b,Qq v'=some b->Qq v=some b\/w.heap.size<=b)->Own e (v'::L) w' v' zs->K v' w'):Eff P ⟨d,.call ⟨.builtin .append,#[x,y],aT⟩,t,p,af,gu⟩ n ρ w K:=by
 subst hT;obtain ⟨hb,rfl⟩:=Qxw hz;have hbm:bytes<=65536:=by simpa using hbm
 have:(xs.length+ys.length) * bytes<=1073741824 * 65536:=El hb hbm;have e0:execOp (Qr n ρ) ⟨d,.call ⟨.builtin .append,#[x,y],#[T,T]⟩,t,p,af,gu⟩=(Builtin.append_ #[T,T] t #[v,vx] >>= fun v=>Pure.pure (Next.value v)):=by
  simp [execOp,resolve,invoke,builtin,hx,hy]
 refine JA (by grind [Yn,QFv]) fun w1 e1=>?_;rw [e0];have hown1:=hown.step (Stepp.ext e1) e1 (fun _ _=>Avoids.nil _);have hs1:=hs.step (Stepp.ext e1);rcases Nat.eq_zero_or_pos ys.length with hz | hz
 ·grind [Sem.run_bind,QWj,Result.andThen,Sem.run_pure,effR,List.eq_nil_of_length_eq_zero]
 ·obtain ⟨v',w',hr,hc,hbl,ho⟩:=QEk (P:=P) (t:=t) hu hi hown1 hs1 (by omega) (by unfold maxLen;omega);obtain ⟨v2,w2,hr2,he2,_⟩:=QWh (P:=P) (t:=t) hu hi ((hown1.sub (L':=[]) (fun _ h=>by cases h)).rd (fun b _=>Avoids.nil b)) hf (hs1.sub (fun _ h=>by cases h)) hz (by omega) (by unfold maxLen;omega);rw [hr] at hr2;cases hr2;simp only [Sem.run_bind,hr,Result.andThen,Sem.run_pure,effR];exact h v' w' (e1.trans he2) (fun b hb=>(hbl b hb).imp id fun h=>Eo e1.size h) ho
theorem JK {α:Type} [Rep α] {e:TypeId} {bytes:Nat} {z:Value} {L:List Value} {K:Value->World->Prop} (hu:P.underlying T=some (.slice e)) (hi:EInfo P e (Rep.n α) bytes z)
  (h:∀ v w',Ext w w'->(∀ b,Qq v=some b->w.heap.size<=b)->Own e (v::L) w' v ([]:List α)->Qlp v->K v w'):Eff P ⟨d,.buildSlice T 0 #[],t,p,af,gu⟩ n ρ w K :=
 Qrx (xs:=[]) (cells:=[]) hu hi (by simp) (by simp [Qaw,Qen]) Elems.nil rfl fun _ w' hb he _ ho=>h _ w' he (fun k hk=>by grind [Qq]) ho ⟨_,_,rfl⟩
/-! ### Whether an own slice is nil, told by its list -/
/-! ### Pointers that lie in arrays; loops of few rounds -/
theorem X5 {a:Addr} (hx:Qr n ρ x=.pointer (some a)):Yl P n ρ ⟨d,.nilCheck x,t,p,af,gu⟩ w (.pointer (some a)):=Yo fun w es=>by
 simp_all [execOp]
theorem Qqn {m e:Nat} {k:IntKind} {i:Int} {cs:List Value} {v:Value} (hu:P.underlying T=some (.array m e)) (hs:Zd P e) (hz:Xr P e 1) (h0:0<=i) (h1:i < m) (hx:Qr n ρ x=.agg cs.toArray) (hy:Qr n ρ y=.int k i)
  (hv:cs[i.toNat]?=some v):Yl P n ρ ⟨d,.index T x y,t,p,af,gu⟩ w v:=by
 refine Zf (Yn (QGa _ _ _)) fun w1 _=>?_;have hp:(part e cs.toArray (i.toNat * 1)).run P w1=.ok v w1:=QWn hs (by simp_all);simp [execOp,hx,hy,Instr.index,asIntOf,run_underlying hu,h0,h1,Zs hz] at hp ⊢;simp [hp]
theorem Qln {s q:TypeId} {i j:Int} {b:Bool} (hb:decide (i < j)=b) (hx:Qr n ρ x=.int .i64 i) (hy:Qr n ρ y=.int .i64 j):Yl P n ρ ⟨d,.binOp .lss s x y q,t,p,af,gu⟩ w (.bool b):=hb▸Q9 hx hy
theorem Qqk {s q:TypeId} {i j r:Int} (hb:w64 (i+j)=r) (hx:Qr n ρ x=.int .i64 i) (hy:Qr n ρ y=.int .i64 j):Yl P n ρ ⟨d,.binOp .add s x y q,t,p,af,gu⟩ w (.int .i64 r):=hb▸QV hx hy
def unr (P:Program) [JD P] (n:Nat) (c:Code) (q:Post):Nat->Env->World->Prop
 | 0=>fun _ _=>False
 | k+1=>fun ρ w=>WC P n c ⟨unr P n c q k,q.ex,q.ret⟩ ρ w
theorem Qlf {c:Code} {q:Post} (k:Nat) (h:WC P n c ⟨unr P n c q k,q.ex,q.ret⟩ ρ w):unr P n c q (k+1) ρ w:=h
theorem QHs {c:Code} {q:Post} (k:Nat) (h:unr P n c q k ρ w):WC P n (.loop c) q ρ w:=by
 have hi:∀ k,Zh (fun i:Nat=>match i with | 0=>some (.inr ()) | i+1=>some (.inl (β:=Unit) i)) (k+1) k=some ():=by
  intro k
  induction k with
  | zero=>rfl
  | succ k ih=>exact ih
 refine Qxk (fun s ρ w=>unr P n c q s ρ w) (hi k) h fun s ρ w hI=>?_;cases s with
 | zero=>exact hI.elim
 | succ s=>exact ⟨fun s' hs=>by cases hs;exact hI,fun hs=>nomatch hs⟩
theorem QKa {α:Type} [Rep α] {e:TypeId} {L:List Value} {v:Value} {xs:List α} {i:Int} {el y':α} {off:Nat} {u:Value} {K:Value->World->Prop} (hs:Xr P T u.cells.size) (hown:Own e L w v xs) (hv:v∈L) (hel:idx xs i=some el)
    (hx:Qr n ρ x=.pointer (some ((YG v i.toNat (Rep.n α)).add off))) (hy:Qr n ρ y=u) (hl:off+u.cells.size<=Rep.n α) (h1:∀ c∈u.cells.toList,c.oneCell'=true)
    (hset:∀ w',Chg [v] w w'->∀ cs,Rep.rd L w' cs el->Rep.rd L w' (Za cs off u.cells.toList) y')
    (h:∀ w',Chg [v] w w'->Own e L w' v (xs.set i.toNat y')->K undef w'):Eff P ⟨d,.store T x y,t,p,af,gu⟩ n ρ w K:=by
  refine JA (Qwr (Qwq _ _ _)) fun w1 e1=>?_;replace hown:=hown.step (Stepp.ext e1) e1 (fun _ _=>Avoids.nil _);obtain ⟨h0,hi,h2⟩:=Qah hel;obtain ⟨cells,ho,hE⟩:=hown;rcases ho.2 with ⟨_,hh⟩ | ⟨g,cap,cur,rfl,_,hg,h4,h5,hcs,htake⟩
  · omega
  · have hlen : i.toNat * Rep.n α + off + 0 + u.cells.toList.length <= cells.length := by
      have:(i.toNat+1) * Rep.n α<=xs.length * Rep.n α:=Ea _ hi;rw [Ep] at this;rw [hE.1];simp;omega
    obtain ⟨w',hr,ho2,hg2⟩:=Qvo (P:=P) u.cells.toList (i.toNat * Rep.n α+off) 0 cells w1 ho hlen h1;have hx':Qr n ρ x=.pointer (some ⟨g,i.toNat * Rep.n α+off,none⟩):=by grind [YG,Y1]
    have hst:(Instr.storeAt T (.pointer (some ⟨g,i.toNat * Rep.n α+off,none⟩)) u).run P w1=.ok () w':=by
      simp [Instr.storeAt,Instr.sureAddr,storeVar,Zs hs,hr]
    simp only [execOp,hx',hy,Sem.run_bind,hst,Result.andThen,Sem.run_pure,effR];have hc:Chg [Value.slice (some ⟨g,0,none⟩) xs.length cap] w1 w':=⟨hg2.os,hg2.tape,hg2.output,hg2.size,fun b hb hA=>hg2.block b hb (fun e=>hA _ (Eg.2 rfl) (by cases e;rfl))⟩;refine h w' ((e1.mono (fun _ h=>by cases h)).trans hc) ⟨_,by rw [List.length_set];exact ho2,?_⟩;have hE':=hE.step (Qk hc hv);refine ⟨by rw [QEs,List.length_set];exact hE.1,fun j b hb=>?_⟩;by_cases hj:j=i.toNat
    · subst hj;rw [List.getElem?_set_self hi] at hb;cases hb;rw [Ev,QEu _ _ _ _ _ (by omega)];exact hset _ ((e1.mono (fun _ h=>by cases h)).trans hc) _ (hE'.2 _ _ h2)
    · rw [List.getElem?_set_ne (Ne.symm hj)] at hb;rw [Ev,QEt]
      · exact hE'.2 _ _ hb
      · rcases Er j i.toNat with hlt | hge
        · left;have:(j+1) * Rep.n α<=i.toNat * Rep.n α:=Ea _ hlt
          grind
        · right;have:(i.toNat+1) * Rep.n α<=j * Rep.n α:=Ea _ (by omega)
          grind
theorem Qry {α:Type} [Rep α] {e:TypeId} {L:List Value} {v:Value} {xs:List α} {i:Int} {el y':α} {off k:Nat} {u:Value} {vs:List Value} {K:Value->World->Prop} (hs:Xr P T k) (hc:u.cells.toList=vs) (hk:vs.length=k) (hown:Own e L w v xs) (hv:v∈L) (hel:idx xs i=some el)
  (hx:Qr n ρ x=.pointer (some ((YG v i.toNat (Rep.n α)).add off))) (hy:Qr n ρ y=u) (hl:Eb (off+k) (Rep.n α)=true) (h1:∀ c∈vs,c.oneCell'=true)
  (hset:∀ w',Chg [v] w w'->∀ cs,Rep.rd L w' cs el->Rep.rd L w' (Za cs off vs) y')
  (h:∀ w',Chg [v] w w'->Own e L w' v (xs.set i.toNat y')->K undef w'):Eff P ⟨d,.store T x y,t,p,af,gu⟩ n ρ w K:=by
 subst hc;subst hk;have e:u.cells.toList.length=u.cells.size:=by simp
 exact QKa (by trivial) hown hv hel hx hy (by simp_all) h1 hset h
theorem QZ {v:Value} {b off:Nat} {cs vs:List Value} {T':TypeId} {K:Value->World->Prop} {k:Nat} (hs:Xr P T k) (hv:v.cells.toList=vs) (hk:vs.length=k) (hx:Qr n ρ x=.pointer (some ⟨b,off,none⟩)) (hy:Qr n ρ y=v)
  (hb:Box w b cs T') (hl:Eb (off+k) cs.length=true) (h1:∀ u∈vs,u.oneCell'=true) (hcs:Za cs off vs=vs)
  (h:∀ w',Chg [.pointer (some ⟨b,0,none⟩)] w w'->Box w' b vs T'->K undef w'):Eff P ⟨d,.store T x y,t,p,af,gu⟩ n ρ w K:=Zq hs hv hk hx hy hb hl h1 hcs h
theorem Q1 (w:World):Ext w w:=Chg.refl _ _
structure Way (L0:List Value) (w0:World) (L:List Value) (w:World):Prop where
 s:Stepp L0 w0 L w
theorem Way.refl (L:List Value) (w:World):Way L w L w:=⟨Stepp.sub w fun _ h=>h⟩
theorem Way.step {L0 L L':List Value} {w0 w w':World} (h:Way L0 w0 L w) (s:Stepp L w L' w'):Way L0 w0 L' w':=⟨h.s.trans s⟩
theorem Way.ext {L0 L:List Value} {w0 w w':World} (h:Way L0 w0 L w) (e:Ext w w'):Way L0 w0 L w':=h.step (Stepp.ext e)
theorem Way.sub {L0 L L':List Value} {w0 w:World} (h:Way L0 w0 L w) (hs:∀ x∈L',x∈L):Way L0 w0 L' w:=h.step (Stepp.sub w hs)
theorem SlRd.way {α:Type} [Rep α] {L0 L:List Value} {w0 w:World} {v:Value} {xs:List α} (h:SlRd L0 w0 v xs) (s:Way L0 w0 L w):SlRd L w v xs:=h.step s.s
theorem Rep.rd.way {α:Type} [Rep α] {L0 L:List Value} {w0 w:World} {cs:List Value} {a:α} (h:Rep.rd L0 w0 cs a) (s:Way L0 w0 L w):Rep.rd L w cs a:=Rep.step s.s h
theorem Way.way {L0 L1 L:List Value} {w0 w1 w:World} (h:Way L0 w0 L1 w1) (s:Way L1 w1 L w):Way L0 w0 L w:=h.step s.s
end
end Go.Gw

end
section
set_option linter.unusedSectionVars false
namespace Go.Gw
open Go
section
variable {α:Type} [Rep α] {L L':List Value} {w w':World} {b:Nat} {d:α} {v:Value} {o:Option α}
def PtAt (L:List Value) (w:World) (b:Nat) (d:α):Prop:=∃ (cs:List Value) (T:TypeId) (fz:Nat×Nat),w.heap[b]?=some (.cells cs.toArray T fz)/\Avoids L b/\Rep.rd L w cs d
theorem PtAt.step (h:PtAt L w b d) (s:Stepp L w L' w'):PtAt L' w' b d:=by
 obtain ⟨cs,T,fz,h1,h2,h3⟩:=h;obtain ⟨⟨fz',h4⟩,h5⟩:=s.keeps h1 h2;exact ⟨cs,T,fz',h4,h5,Rep.step s h3⟩
theorem PtAt.ext (h:PtAt L w b d) (e:Ext w w'):PtAt L w' b d:=h.step (Stepp.ext e)
theorem PtAt.at (h:PtAt L w b d):∃ cs,At w ⟨b,0,none⟩ cs/\Rep.rd L w cs d:=by
 obtain ⟨cs,T,fz,h1,_,h3⟩:=h
 grind [At.of_block]
def PtRd (L:List Value) (w:World) (v:Value):Option α->Prop
 | none=>v=.pointer none
 | some d=>∃ b,v=.pointer (some ⟨b,0,none⟩)/\PtAt L w b d
theorem PtRd.step (h:PtRd L w v o) (s:Stepp L w L' w'):PtRd L' w' v o:=by
 cases o with
 | none=>exact h
 | some d=>obtain ⟨b,h1,h2⟩:=h;exact ⟨b,h1,h2.step s⟩
theorem PtRd.ext (h:PtRd L w v o) (e:Ext w w'):PtRd L w' v o:=h.step (Stepp.ext e)
theorem PtRd.sub (h:PtRd L w v o) (hs:∀ x∈L',x∈L):PtRd L' w v o:=h.step (Stepp.sub w hs)
theorem PtRd.way {L0:List Value} {w0:World} (h:PtRd L0 w0 v o) (s:Way L0 w0 L w):PtRd L w v o:=h.step s.s
theorem PtRd.one1 (h:PtRd L w v o):v.oneCell'=true:=by
 cases o with
 | none=>cases h;rfl
 | some d=>obtain ⟨b,rfl,_⟩:=h;rfl
theorem PtRd.nil (L:List Value) (w:World):PtRd L w (.pointer none) (none:Option α):=rfl
theorem PtRd.is (h:PtRd L w v (some d)):∃ b,v=.pointer (some ⟨b,0,none⟩)/\PtAt L w b d:=h
theorem PtRd.of_box {cs:List Value} {T:TypeId} (h:Box w b cs T) (hA:Avoids L b) (hr:Rep.rd L w cs d):PtRd L w (.pointer (some ⟨b,0,none⟩)) (some d):=⟨b,rfl,cs,T,(0,0),h,hA,hr⟩
theorem Qdn {b2 b:Nat} (h:b2≠b):Qq (.pointer (some ⟨b2,0,none⟩))≠some b:=fun e=>h (by grind [Qq])
theorem PtRd.get (h:PtRd L w v o) {r:α} (ho:o=some r):∃ b,v=.pointer (some ⟨b,0,none⟩)/\PtAt L w b r:=by subst ho;exact h
end
instance {α:Type} [Rep α]:Rep (Option α):=⟨1,fun L w cs o=>∃ v,PtRd L w v o/\cs=[v],fun ⟨v,_,h⟩=>by subst h;rfl,fun ⟨v,h1,h⟩ u hu=>by subst h;rw [Eg.1 hu];exact h1.one1,fun s ⟨v,h1,h⟩=>⟨v,h1.step s,h⟩⟩
section
variable {P:Program} [JD P] {n:Nat} {ρ:Env} {w:World} {d:Option Nat} {t T U:TypeId} {p:String} {af:Array Edge} {gu:Option (Nat×Bool)} {x y:Operand}
theorem Y6 {v:Value} {b:Nat} (hv:v=.pointer (some ⟨b,0,none⟩)) (hx:Qr n ρ x=v):Yl P n ρ ⟨d,.nilCheck x,t,p,af,gu⟩ w (.pointer (some ⟨b,0,none⟩)):=X5 (hx.trans hv)
/-! ### A slice of zero structs -/
theorem Qtr (z:Array Value) (m:Nat) (hz:0 < z.size):(madeCells z (m * z.size)).toList=(Ed m z.toList).flatten:=by
 unfold madeCells;simp only [Array.toList_map,Array.toList_range]
 induction m with
 | zero=>simp
 | succ m ih =>
  rw [Ep,Nat.add_comm,List.range_add,List.map_append,Et,Ei,List.flatten_cons,<-ih];congr 1
  ·apply List.ext_getElem
   ·simp
   grind [Nat.mod_eq_of_lt]
  simp
theorem Elems.rep {α:Type} [Rep α] {L:List Value} {w:World} {cs:List Value} {zero:α} (hz:Rep.rd L w cs zero):∀ m:Nat,Elems L w (Ed m cs).flatten (Ed m zero)
 | 0=>Elems.nil
 | m+1=>by
  rw [Ei,Ei,List.flatten_cons];exact Elems.cons hz (Elems.rep hz m)
theorem Qyy {α:Type} [Rep α] {e:TypeId} {bytes s:Nat} {c:Value} {zcs:List Value} {L:List Value} {i:Int} {zero:α} {xs:List α} {k k':IntKind} {K:Value->World->Prop} (hs:Rep.n α=s) (h0s:Eb 1 s=true) (h1s:Eb s 16=true) (hu:P.underlying T=some (.slice e)) (hi:EInfo P e s bytes c) (hcc:c.cells=zcs.toArray) (hcl:zcs.length=s)
    (hbm:Eb bytes 65536=true) (hz:∀ L w,Rep.rd L w zcs zero) (hx:Qr n ρ x=.int k i) (hy:Qr n ρ y=.int k' i) (hm:mk i zero=some xs)
    (h:∀ v w',Ext w w'->(∀ b,Qq v=some b->w.heap.size<=b)->Own e (v::L) w' v xs->K v w'):Eff P ⟨d,.makeSlice T x y,t,p,af,gu⟩ n ρ w K:=by
  obtain ⟨h0,hmax,rfl⟩:=Qnv hm;obtain ⟨ti,g1,g2,g3,g4,_,_⟩:=hi.ex;have hbm:bytes<=65536:=by simpa using hbm
  have h0s:1<=s:=by trivial
  have h1s:s<=16:=by simpa using h1s
  obtain ⟨m,rfl⟩:∃ m:Nat,i=(m:Int):=⟨i.toNat,by omega⟩;have hmm:m<=1048576:=by omega
  have hb:ti.bytes * m<=281474976710656:=by
    rw [g3]
    calc bytes * m<=65536 * 1048576:=El hbm hmm
      _<=_:=by decide
  have hms:m * s<=16777216:=Eo (El hmm h1s) (by decide);refine JA (Yn (Qwo _ _ _)) fun w1 e1=>?_;obtain ⟨w',hr,ho,hg⟩:=run_makeSlice_full (P:=P) (w:=w1) 0 T e ti c s hu g1 g4 g2 k k' m (by omega) hb (by unfold maxLen;omega) (Ew _);have he:Ext w1 w':=⟨hg.os,hg.tape,hg.output,hg.size,fun b hb _=>hg.block b hb (fun e=>by cases e)⟩;simp only [execOp,hx,hy,Sem.run_bind,hr,Result.andThen,Sem.run_pure,effR];refine h _ w' (e1.trans he) (fun b hb=>by have:=e1.size;grind [Qq]) ⟨(madeCells c.cells (m * s)).toList,?_,?_⟩
  · simp_all
  grind [Qtr,Int.toNat_natCast,Elems.rep]
theorem Q1k {e m h:Nat} {a:Addr} {v:Value} {k:IntKind} (hu:P.underlying T=some (.array m e)) (hs:Xr P e 1) (hm:Nat.blt 0 m=true) (hh:Eb h m=true) (hx:Qr n ρ x=.pointer (some a)) (hy:Qr n ρ y=.int k (h:Int))
  (hv:v=.slice (some (a.add (0 * 1))) h m):Yl P n ρ ⟨d,.slice T x none (some y) none,t,p,af,gu⟩ w v:=by
 subst hv;have hm:0 < m:=by simp_all
 have hh:h<=m:=by simpa using hh
 have h0:¬ m=0:=by omega
 exact Zf (Yn (Qcg _ _ _ _ _)) fun w1 _=>by simp [execOp,hx,hy,Instr.sliceAt,run_underlying hu,Instr.sureAddr,Instr.sliceBounds,Instr.sliceBound,asIntOf,Zs hs,h0,hh]
end
end Go.Gw

end
section
set_option linter.unusedSectionVars false
namespace Go.Gw
open Go
section
variable {P:Program} [JD P]
theorem QYp {T I e:TypeId} {k:IntKind} (hu:P.underlying T=some (.slice e)) (hI:P.underlying I=some (.int k)) (t:TypeId) (v x:Value):Tame P (Builtin.append_ #[T,I] t #[v,x]):=by
 unfold Builtin.append_;dsimp only [List.getElem?_toArray,List.getElem?_cons_zero,List.getElem?_cons_succ];refine .und hu ?_;dsimp only;split
 ·refine .bnd (JO _) fun size=>.und hI ?_;simp only [if_true,Bool.not_true,Bool.false_eq_true,if_false,true_or,pure_bind]
  repeat' first
   | exact .pure _
   | exact YK _
   | exact QFw _
   | exact Qch _
   | exact Qde _
   | exact Qfq _
   | exact Qlb _
   | exact Qek _ _ _
   | exact Qfu _
   | exact Qfr _ _
   | exact Qft _ _ _
   | refine JG ?_ ?_
   | refine .bnd ?_ fun _=>?_
   | split
 ·exact YK _
theorem QWi {w:World} (t u ty e:TypeId) (i:TypeInfo) (z:Value) {k:IntKind} (ht:P.underlying t=some (.slice e)) (hu:P.underlying u=some (.int k)) (hi:P.info? e=some i) (hz:i.zero=some z) (n:Nat) (h0:0 < n) (hn:n<=1048576) (hs:0 < i.size) (h48:n * i.bytes<=281474976710656) :
  (Builtin.append_ #[t,u] ty #[.slice none 0 0,.int .i64 (n:Int)]).run P w =
   .ok (.slice (some ⟨w.heap.size,0,none⟩) n (grownCap w n 0 e)) (w.drew.alloc (.cells (Builtin.zeroCells z.cells n++Builtin.zeroCells z.cells (grownCap w n 0 e - n)) e)):=by
 have hn0:n≠0:=by omega
 have hs0:i.size≠0:=by omega
 have hw:IntKind.i64.wrap (n:Int)=(n:Int):=Go.IntWalk.i64_in _ (by omega);have hns:¬ n * i.size=0:=by
  have:=Nat.mul_pos h0 hs;omega
 have h63':¬ (9223372036854775807 < (n:Int)):=by omega
 have hneg:¬ ((n:Int) < 0):=by omega
 have h48i:¬ ((281474976710656:Int) < (n:Int) * (i.bytes:Int)):=by
  omega
 have h48':¬ (281474976710656 < Builtin.nextslicecap n 0 * i.bytes):=by rw [nextslicecap_zero h0];omega
 simp [Builtin.append_,run_underlying ht,run_underlying hu,sizeOf,typeInfo,zeroValue,hi,hz,asInt,asIntOf,hn0,hs0,hw,h63',hneg,h48i,h48',Question.forced,run_firstCells_none,newRow,grownCap];omega
end
end Go.Gw

end
section
set_option linter.unusedSectionVars false
namespace Go.Gw
open Go
def Qkx (s:ByteArray) (lo hi:Int):Option ByteArray:=if 0<=lo/\lo<=hi/\hi<=(s.size:Int) then some (s.extract lo.toNat hi.toNat) else none
theorem QYf {s t:ByteArray} {lo hi:Int} (h:Qkx s lo hi=some t):0<=lo/\lo<=hi/\hi<=(s.size:Int)/\t=s.extract lo.toNat hi.toNat:=by
 grind [Qkx]
def J6 (xs:List U8):List Int:=xs
def ZS (xs:List U8):ByteArray:=(J6 xs).foldl (fun r n=>r.push (UInt8.ofNat n.toNat)) ByteArray.empty
theorem Qzn:∀ (l:List Int) (r:ByteArray),l.foldl (fun r n=>r.push (UInt8.ofNat n.toNat)) r=⟨r.data++(l.map fun n=>UInt8.ofNat n.toNat).toArray⟩
 | [],r=>by simp
 | b::l,r=>by
  simp only [List.map_cons,List.foldl_cons];rw [Qzn l];simp [ByteArray.push]
theorem QCv (xs:List U8):ZS xs=⟨((J6 xs).map fun n=>UInt8.ofNat n.toNat).toArray⟩:=by
 simp_all [Qzn,ZS]
theorem QCu (s:ByteArray):ZS (bl s)=s:=by
 rw [QCv];show (⟨((s.data.toList.map fun b=>((b.toNat:Nat):Int)).map fun n:Int=>UInt8.ofNat n.toNat).toArray⟩:ByteArray)=s;rw [Et];have:((fun n:Int=>UInt8.ofNat n.toNat) ∘ fun b:UInt8=>((b.toNat:Nat):Int))=id:=by
  funext b;simp
 simp_all
theorem Qrl (a b:ByteArray):bl (a++b)=bl a++bl b:=by
 show Ex (fun b:UInt8=>((b.toNat:Nat):Int)) (a++b).data.toList=Ex (fun b:UInt8=>((b.toNat:Nat):Int)) a.data.toList++Ex (fun b:UInt8=>((b.toNat:Nat):Int)) b.data.toList;simp
section
variable {P:Program} [JD P] {n:Nat} {ρ:Env} {w:World}
variable {d:Option Nat} {t T U:TypeId} {p:String} {af:Array Edge} {gu:Option (Nat×Bool)} {x y z:Operand}
theorem QHa {s r:ByteArray} {k k':IntKind} {lo hi:Int} (hu:P.underlying T=some .string) (h:Qkx s lo hi=some r) (hx:Qr n ρ x=.string s) (hl:Qr n ρ y=.int k lo) (hh:Qr n ρ z=.int k' hi) :
  Yl P n ρ ⟨d,.slice T x (some y) (some z) none,t,p,af,gu⟩ w (.string r):=by
 obtain ⟨h0,h1,h2,rfl⟩:=QYf h;refine Zf (Yn (Qcg _ _ _ _ _)) fun w1 _=>?_;have e1:=Qhh (P:=P) (w:=w1) (k:=k') (i:=hi) (y:=s.size) (c:=.sliceAlen) (by omega) (by omega);have e2:=Qhh (P:=P) (w:=w1) (k:=k) (i:=lo) (y:=hi.toNat) (c:=.sliceB) h0 (by omega);simp_all [execOp,Instr.sliceAt,Instr.slice,run_underlying,Instr.sliceBounds]
theorem Qze {L:List Value} {cs:List Value} {xs:List U8} (h:Elems L w cs xs):cs=(J6 xs).map (Value.int .u8):=by
 obtain ⟨h1,h2⟩:=h;have h1:cs.length=xs.length * 1:=h1;rw [Ef] at h1;apply List.ext_getElem?;intro i;rcases Er i xs.length with hi | hi
 ·have hx:xs[i]?=some xs[i]:=List.getElem?_eq_getElem hi;have h3:(cs.drop (i * 1)).take 1=[.int .u8 xs[i]]:=h2 i _ hx;have h4:((cs.drop (i * 1)).take 1)[0]?=some (.int .u8 xs[i]):=by rw [h3];rfl
  rw [Ef,Ec (by omega),List.getElem?_drop,Ev] at h4;rw [h4];rw [Em];have hx':(J6 xs)[i]?=some (xs[i]:Int):=hx
  grind
 ·rw [Ej (by omega),Ej (by rw [List.length_map];exact hi)]
omit [JD P] in
theorem QWk {L:List Value} {v:Value} {xs:List U8} (h:SlRd L w v xs):(Conv.bytesToString v).run P w=.ok (.string (ZS xs)) w:=by
  rcases h with ⟨a0,rfl,rfl⟩ | ⟨b,off,cap,cur,e,fz,rfl,hb,hA,h4,h5,h6,h7⟩
  · cases a0 with
    | none=>rfl
    | some a=>rfl
  · have e1:=Qze h7;have e2:Rep.n U8=1:=rfl;rw [e2,Ef] at e1;refine run_bytesToString (P:=P) w ⟨b,off,none⟩ xs.length cap (J6 xs) ?_;have hl:=run_loadCells_list (P:=P) w ⟨b,off,none⟩ ((J6 xs).map (Value.int .u8)) (fun j v hj=>by
      rw [<-e1] at hj;refine (At.of_block hb (cs:=(cur.toList.drop off).take xs.length) (fun j v hv=>?_)).2 j v hj
      grind)
    grind
omit [JD P] in
theorem QYs (v:Value):Tame P (Conv.bytesToString v):=by
 unfold Conv.bytesToString;split
 ·exact .pure _
 ·refine .bnd (Qwn _ _) fun cells=>.bnd ?_ fun s=>.pure _;rw [<-Array.forIn_toList];refine Qqa _ (fun a b=>?_) _ _;split
  ·exact .pure _
  ·exact YK _
 ·exact YK _
theorem Qwz {e:TypeId} {L:List Value} {v:Value} {xs:List U8} (hu:P.underlying T=some (.slice e)) (he:P.underlying e=some (.int .u8)) (hU:P.underlying U=some .string) (hs:SlRd L w v xs) (hx:Qr n ρ x=v) :
  Yl P n ρ ⟨d,.convert T U x,t,p,af,gu⟩ w (.string (ZS xs)):=by
 obtain ⟨a,cap,rfl,_⟩:=hs.shape;refine Zf (Yn (by
  rw [hx];unfold convert;exact .und hu (.und hU (.und he (QYs _))))) fun w1 e1=>?_
 simp [execOp,hx,run_convert_bytes_string w1 T U e a xs.length cap hu he hU,QWk (P:=P) (hs.ext e1)]
end
end Go.Gw
namespace Go.Gw
open Go
section
variable {P:Program} [JD P] {n:Nat} {ρ:Env} {w:World}
variable {d:Option Nat} {t T U:TypeId} {p:String} {af:Array Edge} {gu:Option (Nat×Bool)} {x y z:Operand}
variable {ps rs:Array TypeId} {va:Bool} {f:Fn} {a c:Array Value}
theorem QVv {es:Array Event} (hu:P.underlying T=some (.func ps rs va)):(Op.equal T (.func f a c) .nilFunc).runT P w es=(.ok false w,es):=by
 rw [Op.equal,show Op.maxDepth=9999+1 from rfl,Op.equalIn];exact (Xo (ZK hu)).trans rfl
theorem QVw {es:Array Event} (hu:P.underlying T=some (.func ps rs va)):(Op.equal T .nilFunc .nilFunc).runT P w es=(.ok true w,es):=by
 rw [Op.equal,show Op.maxDepth=9999+1 from rfl,Op.equalIn];exact (Xo (ZK hu)).trans rfl
theorem QGx (hu:P.underlying T=some (.func ps rs va)) (hx:Qr n ρ x=.func f a c) (hy:Qr n ρ y=.nilFunc):Yl P n ρ ⟨d,.binOp .neq T x y U,t,p,af,gu⟩ w (.bool true):=Yo fun w es=>by
 simp only [execOp,hx,hy,eqGuard,binOp];refine (Xo (Xo (QVv hu))).trans rfl
theorem Q1c (hu:P.underlying T=some (.func ps rs va)) (hx:Qr n ρ x=.nilFunc) (hy:Qr n ρ y=.nilFunc):Yl P n ρ ⟨d,.binOp .neq T x y U,t,p,af,gu⟩ w (.bool false):=Yo fun w es=>by
 simp only [execOp,hx,hy,eqGuard,binOp];refine (Xo (Xo (QVw hu))).trans rfl
end
end Go.Gw

end
section
set_option linter.unusedSectionVars false
set_option linter.unusedVariables false
namespace Go.Gw
open Go
structure Opq where mk ::
 deriving DecidableEq,Inhabited
section
variable {L L':List Value} {w w':World} {v:Value} {o:Opq}
end
end Go.Gw

end
section
set_option linter.unusedSectionVars false
set_option linter.unusedVariables false
namespace Go.Gw
open Go
section
variable {P:Program} [JD P] {n:Nat} {ρ:Env} {w:World}
variable {d:Option Nat} {t T U:TypeId} {p:String} {af:Array Edge} {gu:Option (Nat×Bool)} {x y z:Operand}
theorem QVx {es:Array Event} {e:TypeId} {o:Option Addr} (hu:P.underlying T=some (.pointer e)):(Op.equal T (.pointer o) (.pointer none)).runT P w es=(.ok o.isNone w,es):=by
 rw [Op.equal,show Op.maxDepth=9999+1 from rfl,Op.equalIn];cases o<;>exact (Xo (ZK hu)).trans rfl
theorem PtRd.shape {α:Type} [Rep α] {L:List Value} {w2:World} {v:Value} {o:Option α} (h:PtRd L w2 v o):∃ a,v=.pointer a/\a.isNone=o.isNone:=by
 cases o with
 | none=>exact ⟨none,h,rfl⟩
 | some r=>obtain ⟨b,h1,_⟩:=h;exact ⟨_,h1,rfl⟩
theorem Q1d {α:Type} [Rep α] {e:TypeId} {L:List Value} {w2:World} {v:Value} {o:Option α} (hu:P.underlying T=some (.pointer e)) (hs:PtRd L w2 v o) (hx:Qr n ρ x=v) (hy:Qr n ρ y=.pointer none) :
  Yl P n ρ ⟨d,.binOp .neq T x y U,t,p,af,gu⟩ w (.bool (!o.isNone)):=by
 obtain ⟨a,rfl,h⟩:=hs.shape;rw [<-h];refine Yo fun w es=>?_;simp only [execOp,hx,hy,eqGuard,binOp];refine (Xo (Xo (QVx hu))).trans rfl
end
end Go.Gw

end
