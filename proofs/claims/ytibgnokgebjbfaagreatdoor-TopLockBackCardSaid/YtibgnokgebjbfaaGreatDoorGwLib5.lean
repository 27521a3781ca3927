/- Laws of the walk. Condition: each theorem says its own. -/
import Derived.Test.YtibgnokgebjbfaaGreatDoorGwCore
import Derived.KernelRfl
import Derived.Laws.OwnMore
import Derived.Laws.CopyRow
import Derived.Laws.ByValue
import Derived.WalkSpells
set_option linter.unusedVariables false
set_option linter.unusedSimpArgs false
set_option linter.unusedSectionVars false
section
set_option linter.unusedSectionVars false
namespace Go.Gw
open Go

abbrev w64 (x:Int):Int:=IntKind.wrap .i64 x

theorem Qv {α:Type} {b:Bool} {x y z:α} (hb:b=true) (h:cond b x y=z):x=z:=by subst hb;exact h
theorem Qz {α:Type} {b:Bool} {x y z:α} (hb:b=false) (h:cond b x y=z):y=z:=by subst hb;exact h
theorem Qd {α β:Type} {e:Option α} {f:α->Option β} {r:β} (h:e.bind f=some r):∃ x,e=some x/\f x=some r:=by
 cases e with
 | none=>cases h
 | some x=>exact ⟨x,rfl,h⟩

noncomputable def loop {σ β:Type} (step:σ->Option (σ⊕β)) (s:σ):Option β :=
 match YT step 300 s with
 | some o=>some o
 | none=>open Classical in if h:∃ o,∃ k,YT step k s=some o then some (Classical.choose h) else none

theorem Qou {σ β:Type} {step:σ->Option (σ⊕β)}:∀ {k k':Nat} {s:σ} {o o':β},YT step k s=some o->YT step k' s=some o'->o=o'
 | 0,_,_,_,_,h,_=>by cases h
 | _+1,0,_,_,_,_,h=>by cases h
 | k+1,k'+1,s,o,o',h,h'=>by
  simp only [YT] at h h';cases hs:step s with
  | none=>simp [hs] at h
  | some x =>
   cases x with
   | inl s'=>simp only [hs] at h h';exact Qou h h'
   | inr b=>simp only [hs] at h h';cases h;cases h';rfl

theorem loop_iff {σ β:Type} {step:σ->Option (σ⊕β)} {s:σ} {o:β}:loop step s=some o↔∃ k,YT step k s=some o:=by
 classical
 unfold loop;cases h3:YT step 300 s with
 | some o'=>exact ⟨fun h=>⟨300,h3.trans h⟩,fun ⟨k,hk⟩=>congrArg some (Qou h3 hk)⟩
 | none =>
  constructor
  ·intro h;simp only at h;split at h
   ·rename_i hh;obtain ⟨k,hk⟩:=Classical.choose_spec hh;cases h;exact ⟨k,hk⟩
   ·cases h
  ·rintro ⟨k,hk⟩;have hh:∃ o,∃ k,YT step k s=some o:=⟨o,k,hk⟩;simp only;rw [dif_pos hh];obtain ⟨k',hk'⟩:=Classical.choose_spec hh;rw [Qou hk' hk]

theorem J6 {σ β:Type} {step:σ->Option (σ⊕β)} {s s':σ} (h:step s=some (.inl s')):loop step s=loop step s':=by
 apply Option.ext;intro o;rw [loop_iff,loop_iff];constructor
 ·rintro ⟨k,hk⟩;cases k with
  | zero=>cases hk
  | succ k=>simp only [YT,h] at hk;exact ⟨k,hk⟩
 ·rintro ⟨k,hk⟩;exact ⟨k+1,by simp only [YT,h];exact hk⟩
theorem Qam {σ β:Type} {step:σ->Option (σ⊕β)} {s:σ} {o:β} (h:step s=some (.inr o)):loop step s=some o:=by
 rw [loop_iff];exact ⟨1,by simp only [YT,h]⟩

section
variable {P:Program} [JD P] {n:Nat} {q:Post} {ρ:Env} {w:World}

theorem QAm {c:Code} {σ β:Type} {step:σ->Option (σ⊕β)} {s:σ} {o:β} (I:σ->Env->World->Prop) (h:loop step s=some o) (h0:I s ρ w)
  (round:∀ s ρ w,I s ρ w->∀ x,step s=some x->(∀ y,x=.inr y->y=o)->WC P n c ⟨fun ρ w=>∃ s',x=.inl s'/\I s' ρ w,q.ex,q.ret⟩ ρ w):WC P n (.loop c) q ρ w:=by
 obtain ⟨k,hk⟩:=loop_iff.1 h;refine Qsy (step:=step) (k:=k) (s:=s) (o:=o) I hk h0 fun s ρ w hI=>⟨fun s' hs=>?_,fun hs=>?_⟩
 ·exact (round s ρ w hI _ hs (fun y hy=>by cases hy)).mono (fun ρ w ⟨s'',he,hI'⟩=>by cases he;exact hI') (fun _ _ _ h=>h) (fun _ _ h=>h)
 ·exact (round s ρ w hI _ hs (fun y hy=>by cases hy;rfl)).mono (fun ρ w ⟨s'',he,_⟩=>by cases he) (fun _ _ _ h=>h) (fun _ _ h=>h)

theorem Qae {ops:Array Oper} {K:Env->World->Prop} {o:Oper} {os:List Oper} (b:Bool) (V:Value) (hw:X0 ops o n ρ=b) (ht:b=true->Eff P o n ρ w (fun v w'=>v=V/\Ext w w'))
    (h:∀ w',Ext w w'->T0 P n ops K os (Xu ρ o.dst (gd b V)) w'):T0 P n ops K (o::os) ρ w :=
  Qsv b hw (fun hb=>(ht hb).mono fun v w' ⟨hv,he⟩=>by have:=h w' he;rw [Qp hb] at this;rw [hv];exact this)
    (fun hb=>by have:=h w (Chg.refl _ _);rw [Qgj hb] at this;exact this)
section ev
variable {x1 x2 x3 x4 x5 x6 x7 x8:Operand} {v1 v2 v3 v4 v5 v6 v7 v8:Value}
theorem ev0:((#[]:Array Operand).map (Qt n ρ)).toList=[]:=by simp
theorem QQ (h1:Qt n ρ x1=v1):(#[x1].map (Qt n ρ)).toList=[v1]:=by subst h1;simp
theorem Q2 (h1:Qt n ρ x1=v1) (h2:Qt n ρ x2=v2):(#[x1,x2].map (Qt n ρ)).toList=[v1,v2]:=by subst h1 h2;simp
theorem X2 (h1:Qt n ρ x1=v1) (h2:Qt n ρ x2=v2) (h3:Qt n ρ x3=v3):(#[x1,x2,x3].map (Qt n ρ)).toList=[v1,v2,v3]:=by subst h1 h2 h3;simp
theorem JR (h1:Qt n ρ x1=v1) (h2:Qt n ρ x2=v2) (h3:Qt n ρ x3=v3) (h4:Qt n ρ x4=v4):(#[x1,x2,x3,x4].map (Qt n ρ)).toList=[v1,v2,v3,v4]:=by subst h1 h2 h3 h4;simp
end ev

variable {d:Option Nat} {t T U:TypeId} {p:String} {af:Array Edge} {gu:Option (Nat×Bool)} {x y z:Operand}
theorem Qm {fs:Array Field} {i:Nat} {f:Field} {a:Addr} {v:Value} (off:Nat) (hu:P.underlying T=some (.struct fs)) (hf:fs[i]?=some f) (ho:f.offset=off) (hs:∃ k,Xp P f.type (k+1)) (hx:Qt n ρ x=.pointer (some a))
  (hv:v=.pointer (some (a.add off))):Yl P n ρ ⟨d,.fieldAddr T x i,t,p,af,gu⟩ w v:=by
 subst hv;subst ho;obtain ⟨k,hs⟩:=hs;exact QSn hu hf hs hx

theorem Yn {a:Addr} {cs:List Value} (hT:Aggr P T cs.length) (hat:At w a cs):∀ w1,Rel w w1->(loadVar T a).run P w1=.ok (.agg cs.toArray) w1:=fun w1 r=>by
 simp [loadVar,Qyd hT,ZK hT.size,run_loadCells_list w1 a cs (At.ext r.ext hat).2]
def LtL (L:List Value) (w:World):Prop:=∀ h∈L,∀ b,Qh h=some b->b < w.heap.size
theorem LtL.chg {L H:List Value} {w w':World} (h:LtL L w) (c:Chg H w w'):LtL L w':=fun x hx b hb=>Nat.lt_of_lt_of_le (h x hx b hb) c.size
theorem LtL.nil (w:World):LtL [] w:=fun _ h=>by cases h
theorem LtL.cons {L:List Value} {w:World} {v:Value} (h:LtL L w) (hv:∀ b,Qh v=some b->b < w.heap.size):LtL (v::L) w:=fun x hx b hb=>by
 rcases List.mem_cons.1 hx with rfl | hx
 ·exact hv b hb
 ·exact h x hx b hb

theorem Own.sub {α:Type} [Rep α] {e:TypeId} {L L':List Value} {v:Value} {xs:List α} (h:Own e L w v xs) (hs:∀ x∈L',x∈L):Own e L' w v xs:=h.step (Stepp.sub w hs) (Chg.refl [] w) (fun _ _=>Avoids.nil _)
theorem SlRd.sub {α:Type} [Rep α] {L L':List Value} {v:Value} {xs:List α} (h:SlRd L w v xs) (hs:∀ x∈L',x∈L):SlRd L' w v xs:=h.step (Stepp.sub w hs)
theorem Own.rdL {α:Type} [Rep α] {e:TypeId} {L L0:List Value} {w0:World} {v:Value} {xs:List α} (h:Own e L w v xs) (hs:∀ x∈L0,x∈L) (hL:LtL L0 w0) (hf:∀ b,Qh v=some b->w0.heap.size<=b):SlRd L0 w v xs :=
 (h.sub hs).rd (fun b hb x hx e=>by have:=hL x hx b e;have:=hf b hb;omega)
theorem Xk {v:Value} {b:Nat} (h:Qh v≠some b):Avoids [v] b:=fun x hx e=>by rcases List.mem_singleton.1 hx with rfl;exact h e
theorem QA {b b':Nat} (h:b'≠b):Avoids [.pointer (some ⟨b',0,none⟩)] b:=fun x hx e=>by rcases List.mem_singleton.1 hx with rfl;simp [Qh] at e;exact h e
end
end Go.Gw
namespace Go.Gw
section
variable {P:Program} [JD P] {n:Nat} {q:Post} {ρ:Env} {w:World}
theorem Xr {c:Code} {σ β:Type} {step:σ->Option (σ⊕β)} {s:σ} {o:β} (I:σ->Env->World->Prop) (h:loop step s=some o) (h0:I s ρ w)
  (round:∀ s ρ w,I s ρ w->∀ x,step s=some x->(∀ y,x=.inr y->y=o)->∀ K:Env->World->Prop,(∀ s' ρ w,x=.inl s'->I s' ρ w->K ρ w)->WC P n c ⟨K,q.ex,q.ret⟩ ρ w):WC P n (.loop c) q ρ w :=
 QAm I h h0 fun s ρ w hI x hx ho=>round s ρ w hI x hx ho _ fun s' _ _ he hI'=>⟨s',he,hI'⟩
theorem XO {α:Type} {a:α} {L L':List α} (h:a∈L') (hs:∀ x∈L,x∈L'):∀ x∈a::L,x∈L':=fun x hx=>by
 rcases List.mem_cons.1 hx with rfl | hx
 ·exact h
 ·exact hs x hx
theorem XA {α:Type} (L:List α):∀ x∈L,x∈L:=fun _ h=>h
theorem Q0 {α:Type} {a:α} {L L':List α} (hs:∀ x∈L,x∈L'):∀ x∈L,x∈a::L':=fun x hx=>List.mem_cons_of_mem _ (hs x hx)
abbrev AgV (l:List Value):Value:=.agg l.toArray
theorem Qu {α:Type} {a:α} {L:List α}:a∈a::L:=List.mem_cons_self ..
theorem Xh {α:Type} {a b:α} {L:List α} (h:a∈L):a∈b::L:=List.mem_cons_of_mem _ h
theorem Xg {α:Type} {x0 x1:α} {L:List α}:x1∈x0::x1::L:=Xh Qu
theorem Yw {α:Type} {x0 x1 x2:α} {L:List α}:x2∈x0::x1::x2::L:=Xh (Xh Qu)
theorem JE {α:Type} {x0 x1 x2 x3:α} {L:List α}:x3∈x0::x1::x2::x3::L:=Xh (Xh (Xh Qu))
theorem ZM {α:Type} {x0 x1 x2:α} {L:List α}:∀ x∈L,x∈x0::x1::x2::L:=Q0 (Q0 (Q0 (XA _)))
theorem Qyu {α:Type} {x0 x1 x2 x3 x4:α} {L:List α}:∀ x∈x0::x1::x3::x4::L,x∈x0::x1::x2::x3::x4::L:=XO Qu (XO (Xh Qu) (XO (Xh (Xh (Xh Qu))) (XO (Xh (Xh (Xh (Xh Qu)))) (Q0 (Q0 (Q0 (Q0 (Q0 (XA _)))))))))
theorem Jj {α:Type} {x0 x1 x2:α} {L:List α}:∀ x∈x0::x2::L,x∈x0::x1::x2::L:=XO Qu (XO (Xh (Xh Qu)) (Q0 (Q0 (Q0 (XA _)))))
theorem Qaa {α:Type} {x0 x1 x2 x3:α} {L:List α}:∀ x∈x0::x2::x3::L,x∈x0::x1::x2::x3::L:=XO Qu (XO (Xh (Xh Qu)) (XO (Xh (Xh (Xh Qu))) (Q0 (Q0 (Q0 (Q0 (XA _)))))))
theorem Qyv {α:Type} {x0 x1 x2 x3 x4:α} {L:List α}:∀ x∈x0::x2::x3::x4::L,x∈x0::x1::x2::x3::x4::L:=XO Qu (XO (Xh (Xh Qu)) (XO (Xh (Xh (Xh Qu))) (XO (Xh (Xh (Xh (Xh Qu)))) (Q0 (Q0 (Q0 (Q0 (Q0 (XA _)))))))))
theorem Qas {α:Type} {x0 x1:α} {L:List α}:∀ x∈x0::L,x∈x0::x1::L:=XO Qu (Q0 (Q0 (XA _)))
theorem QY {α:Type} {x0 x1:α} {L:List α}:∀ x∈x1::x0::L,x∈x0::x1::L:=XO (Xh Qu) (XO Qu (Q0 (Q0 (XA _))))
theorem X8 {α:Type} {x0 x1 x2:α} {L:List α}:∀ x∈x1::x0::x2::L,x∈x0::x1::x2::L:=XO (Xh Qu) (XO Qu (XO (Xh (Xh Qu)) (Q0 (Q0 (Q0 (XA _))))))
theorem JK {α:Type} {x0 x1 x2 x3:α} {L:List α}:∀ x∈x1::x0::x2::x3::L,x∈x0::x1::x2::x3::L:=XO (Xh Qu) (XO Qu (XO (Xh (Xh Qu)) (XO (Xh (Xh (Xh Qu))) (Q0 (Q0 (Q0 (Q0 (XA _))))))))
theorem Qrx {α:Type} {x0 x1 x2 x3 x4:α} {L:List α}:∀ x∈x1::x0::x2::x3::x4::L,x∈x0::x1::x2::x3::x4::L:=XO (Xh Qu) (XO Qu (XO (Xh (Xh Qu)) (XO (Xh (Xh (Xh Qu))) (XO (Xh (Xh (Xh (Xh Qu)))) (Q0 (Q0 (Q0 (Q0 (Q0 (XA _))))))))))
theorem Xm {α:Type} {x0 x1 x2:α} {L:List α}:∀ x∈x1::x2::L,x∈x0::x1::x2::L:=XO (Xh Qu) (XO (Xh (Xh Qu)) (Q0 (Q0 (Q0 (XA _)))))
theorem Qic {α:Type} {x0 x1 x2 x3:α} {L:List α}:∀ x∈x1::x2::x3::L,x∈x0::x1::x2::x3::L:=XO (Xh Qu) (XO (Xh (Xh Qu)) (XO (Xh (Xh (Xh Qu))) (Q0 (Q0 (Q0 (Q0 (XA _)))))))
theorem Qyw {α:Type} {x0 x1 x2 x3 x4:α} {L:List α}:∀ x∈x1::x2::x3::x4::L,x∈x0::x1::x2::x3::x4::L:=XO (Xh Qu) (XO (Xh (Xh Qu)) (XO (Xh (Xh (Xh Qu))) (XO (Xh (Xh (Xh (Xh Qu)))) (Q0 (Q0 (Q0 (Q0 (Q0 (XA _)))))))))
theorem Zf {α:Type} {x0 x1:α} {L:List α}:∀ x∈x1::L,x∈x0::x1::L:=XO (Xh Qu) (Q0 (Q0 (XA _)))
theorem Qry {α:Type} {x0 x1 x2:α} {L:List α}:∀ x∈x2::x0::x1::L,x∈x0::x1::x2::L:=XO (Xh (Xh Qu)) (XO Qu (XO (Xh Qu) (Q0 (Q0 (Q0 (XA _))))))
theorem QF {α:Type} {L:List α}:∀ x∈([]:List α),x∈L:=fun _ h=>by cases h
end
end Go.Gw
namespace Go.Gw
def Xj {β μ:Type} (o:β⊕μ) (f:μ->Option β):Option β:=match o with | .inl b=>some b | .inr m=>f m
theorem Xo {β μ:Type} {a:β} {f:μ->Option β} {x:β} (h:Xj (.inl a) f=some x):some a=some x:=h
theorem XQ {β μ:Type} {a:μ} {f:μ->Option β} {x:β} (h:Xj (.inr a) f=some x):f a=some x:=h
section
variable {α:Type} [Rep α] {w w':World}
theorem Zj {e:TypeId} {L:List Value} {v:Value} {xs:List α} {b:Nat} (h:Own e L w v xs) (hb:w.heap.size<=b):Qh v≠some b:=fun e=>by have:=h.blk_lt e;omega
theorem XN {v v':Value} {b:Nat} {cs:List Value} {T:TypeId} (hbl:∀ b,Qh v'=some b->Qh v=some b\/w.heap.size<=b) (h:Qh v≠some b) (hB:Box w b cs T):Qh v'≠some b:=fun e=>by
 rcases hbl b e with h1 | h1
 ·exact h h1
 ·have:=hB.lt;omega
theorem QBz {e:TypeId} {L:List Value} {u v v':Value} {xs:List α} (hbl:∀ b,Qh v'=some b->Qh v=some b\/w.heap.size<=b) (h:∀ b,Qh u=some b->Qh v≠some b) (hu:Own e L w u xs):∀ b,Qh u=some b->Qh v'≠some b:=fun b hb e=>by
 rcases hbl b e with h1 | h1
 ·exact h b hb h1
 ·have:=hu.blk_lt hb;omega
theorem X3 {v v':Value} {w0:World} (hbl:∀ b,Qh v'=some b->Qh v=some b\/w.heap.size<=b) (h:∀ b,Qh v=some b->w0.heap.size<=b) (hs:w0.heap.size<=w.heap.size):∀ b,Qh v'=some b->w0.heap.size<=b:=fun b hb=>by
 rcases hbl b hb with h1 | h1
 ·exact h b h1
 ·omega
theorem Jb (b:Nat) {p:Prop} (h:Qh (.slice none 0 0)=some b):p:=by cases h
theorem QBc {v:Value} {u:Value} (h:∀ b,Qh u=some b->Qh v≠some b):∀ b,Qh u=some b->Avoids [v] b:=fun b hb=>Xk (h b hb)
theorem XF {v:Value} {b:Nat} (h:Qh v≠some b):∀ k,Qh v=some k->Avoids [.pointer (some ⟨b,0,none⟩)] k:=fun k hk=>QA (fun e=>h (by rw [e];exact hk))
theorem X4 {v:Value} {w0:World} (h:Ext w0 w) (c:Chg [v] w w') (hf:∀ b,Qh v=some b->w0.heap.size<=b):Ext w0 w':=Chg.fresh h c (fun x hx n e=>by rcases List.mem_singleton.1 hx with rfl;exact hf n e)
theorem QN {b:Nat} {w0:World} (h:Ext w0 w) (c:Chg [.pointer (some ⟨b,0,none⟩)] w w') (hf:w0.heap.size<=b):Ext w0 w':=Chg.fresh h c (fun x hx n e=>by rcases List.mem_singleton.1 hx with rfl;simp [Qh] at e;omega)
end
end Go.Gw
namespace Go.Gw
def app {α:Type} (xs ys:List α):Option (List α):=if xs.length+ys.length<=1073741824 then some (xs++ys) else none
theorem Qtj {α:Type} {xs ys zs:List α} (h:app xs ys=some zs):xs.length+ys.length<=1073741824/\zs=xs++ys:=by
 unfold app at h;split at h
 ·rename_i hc;exact ⟨hc,by cases h;rfl⟩
 ·cases h
def quo (a b:Int):Option Int:=if b=0 then none else some (w64 (a.tdiv b))
def rem (a b:Int):Option Int:=if b=0 then none else some (a.tmod b)
theorem QMj {a b c:Int} (h:quo a b=some c):b≠0/\c=w64 (a.tdiv b):=by
 unfold quo at h;split at h
 ·cases h
 ·rename_i hb;exact ⟨hb,by cases h;rfl⟩
section
variable {P:Program} [JD P] {n:Nat} {ρ:Env} {w:World}
variable {d:Option Nat} {t T U:TypeId} {p:String} {af:Array Edge} {gu:Option (Nat×Bool)} {x y z:Operand}
theorem QSx {a b c:Int} (h:quo a b=some c) (hx:Qt n ρ x=.int .i64 a) (hy:Qt n ρ y=.int .i64 b):Yl P n ρ ⟨d,.binOp .quo T x y U,t,p,af,gu⟩ w (.int .i64 c):=by
 obtain ⟨hb,rfl⟩:=QMj h;exact QSw hb hx hy
theorem QCh {α:Type} [Rep α] {e:TypeId} {bytes:Nat} {z:Value} {L:List Value} {len:Nat} {xs:List α} {cells:List Value} {parts:Array (Nat×Operand)} {K:Value->World->Prop}
  (hu:P.underlying T=some (.slice e)) (hi:EInfo P e (Rep.n α) bytes z) (hsmall:Nat.ble (len * Rep.n α) 16777216=true)
  (hf:JU (fun i=>some (i * Rep.n α,Rep.n α)) (Qcn z.cells.toList (len * Rep.n α)) (parts.toList.map fun q=>(q.1,Qt n ρ q.2))=some cells)
  (hel:Elems L w cells xs) (hl:xs.length=len) (hlt:LtL L w)
  (h:∀ b w',Ext w w'->SlRd L w' (.slice (some ⟨b,0,none⟩) len len) xs->K (.slice (some ⟨b,0,none⟩) len len) w'):Eff P ⟨d,.buildSlice T len parts,t,p,af,gu⟩ n ρ w K :=
 Qoe hu hi hsmall hf hel hl fun b w' hb he ho _=>h b w' he (ho.rd fun k hk x hx e=>by
  have:=hlt x hx k e;simp [Qh] at hk;omega)

theorem QCg {α:Type} [Rep α] {e:TypeId} {bytes:Nat} {z:Value} {L:List Value} {len:Nat} {xs:List α} {cells:List Value} {parts:Array (Nat×Operand)} {K:Value->World->Prop}
  (hu:P.underlying T=some (.slice e)) (hi:EInfo P e (Rep.n α) bytes z) (hsmall:Nat.ble (len * Rep.n α) 16777216=true)
  (hf:JU (fun i=>some (i * Rep.n α,Rep.n α)) (Qcn z.cells.toList (len * Rep.n α)) (parts.toList.map fun q=>(q.1,Qt n ρ q.2))=some cells)
  (hel:Elems L w cells xs) (hl:xs.length=len)
  (h:∀ v w',Ext w w'->(∀ b,Qh v=some b->w.heap.size<=b)->Own e (v::L) w' v xs->K v w'):Eff P ⟨d,.buildSlice T len parts,t,p,af,gu⟩ n ρ w K :=
 Qoe hu hi hsmall hf hel hl fun _ w' hb he _ ho=>h _ w' he (fun k hk=>by simp [Qh] at hk;omega) ho

theorem J2 {α:Type} [Rep α] {e:TypeId} {bytes:Nat} {zz:Value} {L:List Value} {v vx:Value} {xs ys zs:List α} {K:Value->World->Prop} {aT:Array TypeId}
  (hu:P.underlying T=some (.slice e)) (hi:EInfo P e (Rep.n α) bytes zz) (hbm:Nat.ble bytes 65536=true) (hT:aT=#[T,T]) (hx:Qt n ρ x=v) (hy:Qt n ρ y=vx) (hown:Own e (v::L) w v xs) (hs:SlRd (v::L) w vx ys)
  (hz:app xs ys=some zs)
  (h:∀ v' w',Chg [v] w w'->(∀ b,Qh v'=some b->Qh v=some b\/w.heap.size<=b)->Own e (v'::L) w' v' zs->K v' w'):Eff P ⟨d,.call ⟨.builtin .append,#[x,y],aT⟩,t,p,af,gu⟩ n ρ w K:=by
 obtain ⟨hb,rfl⟩:=Qtj hz;have hbm:bytes<=65536:=by simpa using hbm
 have:(xs.length+ys.length) * bytes<=1073741824 * 65536:=Nat.mul_le_mul hb hbm;exact QCd hu hi hT hx hy hown hs (by omega) (by unfold maxLen;omega) h
end
end Go.Gw
namespace Go.Gw
section
variable {P:Program} [JD P] {n:Nat} {ρ:Env} {w:World}
variable {d:Option Nat} {t T U:TypeId} {p:String} {af:Array Edge} {gu:Option (Nat×Bool)} {x y z:Operand}
theorem JO {a b:Bool} (ha:a=true) (hb:b=true):(a&&b)=true:=by subst ha;subst hb;rfl
theorem Ya {b:Bool} (h:b=false):(!b)=true:=by subst h;rfl
theorem QM {α:Type} [Rep α] {e:TypeId} {L:List Value} {w2:World} {v:Value} {xs:List α} {aT:Array TypeId} (hT:aT[0]?=some T) (hu:P.underlying T=some (.slice e)) (hs:SlRd L w2 v xs) (hx:Qt n ρ x=v) :
  Yl P n ρ ⟨d,.call ⟨.builtin .len,#[x],aT⟩,t,p,af,gu⟩ w (.int .i64 xs.length):=by
 obtain ⟨a,c,rfl,_⟩:=hs.shape;exact Qmx hT hu hx
theorem Qio {α:Type} [Rep α] {e e':TypeId} {L:List Value} {w2:World} {v:Value} {xs:List α} {aT:Array TypeId} (hT:aT[0]?=some T) (hu:P.underlying T=some (.slice e)) (hs:Own e' L w2 v xs) (hx:Qt n ρ x=v) :
  Yl P n ρ ⟨d,.call ⟨.builtin .len,#[x],aT⟩,t,p,af,gu⟩ w (.int .i64 xs.length):=by
 obtain ⟨a,c,rfl,_⟩:=hs.shape;exact Qmx hT hu hx

omit [JD P] in
structure ZI (P:Program) (T:TypeId) (cs:List Value):Prop where
 ex:∃ i z,P.info? T=some i/\i.zero=some z/\z.cells.toList=cs
theorem Xc {cs:List Value} {K:Value->World->Prop} (hZ:ZI P T cs)
  (h:∀ b w',w.heap.size<=b->Ext w w'->Box w' b cs T->K (.pointer (some ⟨b,0,none⟩)) w'):Eff P ⟨d,.alloc T,t,p,af,gu⟩ n ρ w K:=by
 obtain ⟨i,z,hi,hz,hc⟩:=hZ.ex;exact QCb hi hz fun b w' hb he hB=>h b w' hb he (hc▸hB)
theorem Xs {v:Value} {cs:List Value} {K:Value->World->Prop} (hx:Qt n ρ x=v) (hc:v.cells.toList=cs)
  (h:∀ b w',w.heap.size<=b->Ext w w'->Box w' b cs T->K (.pointer (some ⟨b,0,none⟩)) w'):Eff P ⟨d,.box T x,t,p,af,gu⟩ n ρ w K :=
 QCf hx fun b w' hb he hB=>h b w' hb he (hc▸hB)
theorem Zm {v:Value} {b off:Nat} {cs cs' vs:List Value} {T':TypeId} {K:Value->World->Prop} {k:Nat} (hs:Xp P T k) (hv:v.cells.toList=vs) (hk:vs.length=k) (hx:Qt n ρ x=.pointer (some ⟨b,off,none⟩)) (hy:Qt n ρ y=v)
  (hb:Box w b cs T') (hl:Nat.ble (off+k) cs.length=true) (h1:∀ u∈vs,u.oneCell'=true) (hcs:Za cs off vs=cs')
  (h:∀ w',Chg [.pointer (some ⟨b,0,none⟩)] w w'->Box w' b cs' T'->K undef w'):Eff P ⟨d,.store T x y,t,p,af,gu⟩ n ρ w K:=by
 subst hv;subst hk;subst hcs;have e:v.cells.toList.length=v.cells.size:=by simp
 exact QCo (by rw [<-e];exact hs) hx hy hb (by rw [<-e];simpa using hl) h1 h
theorem QL:∀ u∈([]:List Value),u.oneCell'=true:=fun _ h=>by cases h
theorem Ql {v:Value} {vs:List Value} (h:v.oneCell'=true) (hs:∀ u∈vs,u.oneCell'=true):∀ u∈v::vs,u.oneCell'=true:=fun u hu=>by
 rcases List.mem_cons.1 hu with rfl | hu
 ·exact h
 ·exact hs u hu
theorem SlRd.one1 {α:Type} [Rep α] {L:List Value} {v:Value} {xs:List α} (h:SlRd L w v xs):v.oneCell'=true:=by obtain ⟨a,c,rfl,_⟩:=h.shape;rfl
theorem Own.one1 {α:Type} [Rep α] {e:TypeId} {L:List Value} {v:Value} {xs:List α} (h:Own e L w v xs):v.oneCell'=true:=by obtain ⟨a,c,rfl,_⟩:=h.shape;rfl
theorem Qr {L:List Value} {w':World} {b:Nat} (he:Ext w w') (hb:w.heap.size<=b):Stepp L w (.pointer (some ⟨b,0,none⟩)::L) w':=Stepp.add _ he (fun k hk=>by simp [Qh] at hk;omega)
theorem JN {L:List Value} (w:World):Stepp L w (.slice none 0 0::L) w:=Stepp.add _ (Chg.refl [] _) (fun _ h=>by cases h)
theorem QR {b b':Nat} {cs:List Value} {T:TypeId} (h:Box w b' cs T) (hb:w.heap.size<=b):b≠b':=fun e=>by have:=h.lt;omega
theorem Q4 {w0:World} {b:Nat} (h:Ext w0 w) (hb:w.heap.size<=b):w0.heap.size<=b:=Nat.le_trans h.size hb

section
variable {i1 i2 i3 i4 i5 i6 i7 i8 i9:Nat} {x1 x2 x3 x4 x5 x6 x7 x8 x9:Operand} {v1 v2 v3 v4 v5 v6 v7 v8 v9:Value}
end
end
end Go.Gw

end
section
set_option linter.unusedVariables false
namespace Go.Gw
open Go Go.Conc
section
variable {P:Program}
def Qjk:Value->Bool
 | .bool _ | .int _ _ | .string _ | .float _ _=>true
 | _=>false
def NP (v:Value):Prop:=Qjk v=true\/∃ cs,v=.agg cs/\∀ c∈cs.toList,Qjk c=true
theorem NP.part {t:TypeId} {cs:Array Value} {off:Nat} (h:∀ c∈cs.toList,Qjk c=true):∀ w es r w',((part t cs off).runT P w es).1=.ok r w'->NP r:=by
 intro w es r w' hr;rw [Sem.runT_fst] at hr;unfold Go.part at hr;simp only [Sem.run_bind] at hr;cases h1:(isAgg t).run P w with
 | halt x w1=>simp [h1,Result.andThen] at hr
 | ok b w1 =>
  simp only [h1,Result.andThen] at hr;cases b with
  | true =>
   simp only [if_true,Sem.run_bind] at hr;cases h2:(sizeOf t).run P w1 with
   | halt x w2=>simp [h2,Result.andThen] at hr
   | ok k w2 =>
    simp only [h2,Result.andThen,Sem.run_pure] at hr;cases hr;refine .inr ⟨_,rfl,fun c hc=>h c ?_⟩;simp only [Array.toList_extract,List.extract_eq_take_drop] at hc;exact List.mem_of_mem_drop (List.mem_of_mem_take hc)
  | false =>
   simp only [Bool.false_eq_true,if_false] at hr;split at hr
   ·rename_i v hv;simp only [Sem.run_pure] at hr;cases hr;exact .inl (h _ (Array.mem_toList_iff.2 (Array.mem_of_getElem? hv)))
   ·simp [stuck] at hr
theorem QQs (t:TypeId) (cs:Array Value) (off:Nat):Tame P (part t cs off):=by
 unfold part;refine .bnd (Qzh _) fun b=>Qab (.bnd (Jk _) fun _=>.pure _) ?_;split<;>first | exact .pure _ | exact YX _
theorem Qzg (t:TypeId) (x y:Value):Tame P (Instr.index t x y):=by
 unfold Instr.index;refine .bnd (Qmk _) fun _=>.bnd (Qac _) fun _=>?_;split
 ·exact Qab (.bnd (Jk _) fun _=>QQs _ _ _) (Qml _ _ _ _)
 ·split<;>first | exact .pure _ | exact Qml _ _ _ _
 ·exact YX _
end
end Go.Gw

end
section
set_option linter.unusedSectionVars false
namespace Go.Gw
open Go
section
variable {P:Program} [JD P] {n:Nat} {q:Post} {ρ:Env} {w:World}
variable {d:Option Nat} {t T U:TypeId} {p:String} {af:Array Edge} {gu:Option (Nat×Bool)} {x y z:Operand}

theorem Qf {α:Type} {a x:α} (h:some a=some x):a=x:=Option.some.inj h

theorem Xe {c:Code} (M:Env->World->Prop) (h:∀ K:Env->World->Prop,(∀ ρ w,M ρ w->K ρ w)->WC P n c ⟨K,q.ex,q.ret⟩ ρ w) (h2:∀ ρ w,M ρ w->q.norm ρ w):WC P n c q ρ w :=
 (h M fun _ _ h=>h).mono h2 (fun _ _ _ h=>h) (fun _ _ h=>h)

structure EqS (P:Program) (T:TypeId) (X Y:Array Value) (r:Bool):Prop where
 np:∀ c∈X.toList,Qjk c=true
 run:∀ w,(Op.equalIn (9999+1) T (.agg X) (.agg Y)).run P w=.ok r w
theorem Elems.cons {α:Type} [Rep α] {L:List Value} {cs rest:List Value} {x:α} {xs:List α} (h:Rep.rd L w cs x) (hs:Elems L w rest xs):Elems L w (cs++rest) (x::xs):=(Elems.one h).append hs

end
end Go.Gw
namespace Go.Gw
open Go
section
variable {P:Program} {T:TypeId}
theorem YD {k:Nat} (h:(P.info? T).map (·.size)=some k):Xp P T k:=by
 cases hi:P.info? T with
 | none=>simp [hi] at h
 | some i=>simp [hi] at h;exact ⟨i,hi,h⟩
theorem Qbs {k:Nat} {dsc:TypeDesc} (hm:match dsc with | .struct _ | .array _ _=>True | _=>False) (hu:P.underlying T=some dsc) (h:(P.info? T).map (·.size)=some k):Aggr P T k:=by
 obtain ⟨i,hi,hk⟩:=YD h;exact ⟨dsc,i,hu,hm,hi,hk⟩
theorem J3 {k bytes:Nat} {z:Value} (h:(P.info? T).bind (fun i=>i.zero.map fun z=>(i.size,i.bytes,z))=some (k,bytes,z)) (hz:z.cells.size=k) (hk:0 < k):EInfo P T k bytes z:=by
 cases hi:P.info? T with
 | none=>simp [hi] at h
 | some i =>
  simp only [hi,Qq,Option.map_eq_some_iff,Prod.mk.injEq] at h;obtain ⟨z',h1,h2,h3,h4⟩:=h;exact ⟨⟨i,hi,h2,h3,by rw [h1,h4],hz,hk⟩⟩
theorem JZ {places:List (Nat×Nat)} {zero:List Value} {fs:Array Field} (hu:P.underlying T=some (.struct fs)) (hz:(P.info? T).bind (fun i=>i.zero.map fun z=>z.cells)=some zero.toArray)
  (hp:fs.toList.mapM (fun f=>(P.info? f.type).map fun i=>(f.offset,i.size))=some places):BI P T places zero:=by
 cases hi:P.info? T with
 | none=>simp [hi] at hz
 | some i =>
  simp only [hi,Qq,Option.map_eq_some_iff] at hz;obtain ⟨z,h1,h2⟩:=hz;exact ⟨⟨i,fs,z,hi,hu,h1,h2,hp⟩⟩
theorem Z9 {cs:List Value} (hz:(P.info? T).bind (fun i=>i.zero.map fun z=>z.cells.toList)=some cs):ZI P T cs:=by
 cases hi:P.info? T with
 | none=>simp [hi] at hz
 | some i =>
  simp only [hi,Qq,Option.map_eq_some_iff] at hz;obtain ⟨z,h1,h2⟩:=hz;exact ⟨⟨i,z,hi,h1,h2⟩⟩
end
end Go.Gw
namespace Go.Gw
open Go
theorem QJ {L:List Value} {w:World} {b:Nat} {cs:List Value} {T:TypeId} (h:LtL L w) (hB:Box w b cs T):LtL (.pointer (some ⟨b,0,none⟩)::L) w:=h.cons fun k hk=>by
 have e:b=k:=by simpa [Qh] using hk
 subst e;exact hB.lt
theorem YM {α:Type} [Rep α] {e:TypeId} {L L':List Value} {w:World} {v:Value} {xs:List α} (h:LtL L w) (hO:Own e L' w v xs):LtL (v::L) w:=h.cons fun _ hk=>hO.blk_lt hk
end Go.Gw
namespace Go.Gw
open Go
theorem Q6 {v:Value} (h:v.oneCell'=true):v.cells.toList=[v]:=by
 cases v<;>first | rfl | cases h

def Qcb (place:Nat->Option (Nat×Nat)) (cells:List Value):List (Nat×List Value)->Option (List Value)
 | []=>some cells
 | (i,vs)::rest =>
  match place i with
  | none=>none
  | some (off,size)=>bif Nat.beq vs.length size&&Nat.ble (off+vs.length) cells.length then Qcb place (Za cells off vs) rest else none
theorem Qur (place:Nat->Option (Nat×Nat)):∀ (pv:List (Nat×Value)) (cells:List Value),JU place cells pv=Qcb place cells (pv.map fun q=>(q.1,q.2.cells.toList))
 | [],_=>rfl
 | (i,v)::rest,cells=>by
  simp only [JU,Qcb,List.map_cons];cases place i with
  | none=>rfl
  | some p=>simp only [Qur place rest]

section
variable {P:Program} [JD P] {n:Nat} {q:Post} {ρ:Env} {w:World}
variable {d:Option Nat} {t T U:TypeId} {p:String} {af:Array Edge} {gu:Option (Nat×Bool)} {x y z:Operand}
def PC (n:Nat) (ρ:Env) (parts:List (Nat×Operand)) (pc:List (Nat×List Value)):Prop:=parts.map (fun q=>(q.1,(Qt n ρ q.2).cells.toList))=pc
theorem QX:PC n ρ [] []:=rfl
theorem QC {i:Nat} {v:Value} {cs:List Value} {ps:List (Nat×Operand)} {pc:List (Nat×List Value)} (h:Qt n ρ x=v) (hc:v.cells.toList=cs) (hs:PC n ρ ps pc):PC n ρ ((i,x)::ps) ((i,cs)::pc):=by
 subst h;subst hc;unfold PC at hs ⊢;rw [List.map_cons,hs]
theorem PC.fill {parts:List (Nat×Operand)} {pc:List (Nat×List Value)} {place:Nat->Option (Nat×Nat)} {cells out:List Value} (h:PC n ρ parts pc) (hf:Qcb place cells pc=some out):JU place cells (parts.map fun q=>(q.1,Qt n ρ q.2))=some out:=by
 rw [Qur,List.map_map];unfold PC at h;rw [<-hf,<-h];rfl
theorem Xv {cells zero:List Value} {places:List (Nat×Nat)} {parts:List (Nat×Operand)} {pc:List (Nat×List Value)} (hB:BI P T places zero) (hp:PC n ρ parts pc) (h:Qcb (places[·]?) zero pc=some cells) :
  Yl P n ρ ⟨d,.build T parts.toArray,t,p,af,gu⟩ w (.agg cells.toArray):=QSd hB (hp.fill h)
theorem XS {α:Type} [Rep α] {e:TypeId} {bytes:Nat} {z:Value} {L:List Value} {len:Nat} {xs:List α} {cells:List Value} {parts:List (Nat×Operand)} {pc:List (Nat×List Value)} {K:Value->World->Prop}
  (hu:P.underlying T=some (.slice e)) (hi:EInfo P e (Rep.n α) bytes z) (hsmall:Nat.ble (len * Rep.n α) 16777216=true)
  (hp:PC n ρ parts pc) (hf:Qcb (fun i=>some (i * Rep.n α,Rep.n α)) (Qcn z.cells.toList (len * Rep.n α)) pc=some cells)
  (hel:Elems L w cells xs) (hl:xs.length=len) (hlt:LtL L w)
  (h:∀ b w',Ext w w'->SlRd L w' (.slice (some ⟨b,0,none⟩) len len) xs->K (.slice (some ⟨b,0,none⟩) len len) w'):Eff P ⟨d,.buildSlice T len parts.toArray,t,p,af,gu⟩ n ρ w K :=
 QCh hu hi hsmall (hp.fill hf) hel hl hlt h
theorem Qod {α:Type} [Rep α] {e:TypeId} {bytes:Nat} {z:Value} {L:List Value} {len:Nat} {xs:List α} {cells:List Value} {parts:List (Nat×Operand)} {pc:List (Nat×List Value)} {K:Value->World->Prop}
  (hu:P.underlying T=some (.slice e)) (hi:EInfo P e (Rep.n α) bytes z) (hsmall:Nat.ble (len * Rep.n α) 16777216=true)
  (hp:PC n ρ parts pc) (hf:Qcb (fun i=>some (i * Rep.n α,Rep.n α)) (Qcn z.cells.toList (len * Rep.n α)) pc=some cells)
  (hel:Elems L w cells xs) (hl:xs.length=len)
  (h:∀ v w',Ext w w'->(∀ b,Qh v=some b->w.heap.size<=b)->Own e (v::L) w' v xs->K v w'):Eff P ⟨d,.buildSlice T len parts.toArray,t,p,af,gu⟩ n ρ w K :=
 QCg hu hi hsmall (hp.fill hf) hel hl h
end
end Go.Gw
namespace Go.Gw
open Go
section
variable {P:Program} [JD P] {n:Nat} {ρ:Env} {w:World}
variable {d:Option Nat} {t T U:TypeId} {p:String} {af:Array Edge} {gu:Option (Nat×Bool)} {x y z:Operand}
theorem Qjg {f : FuncId} {fn : Func} {c : Code} {xs : Array Operand} {aT : Array TypeId} {args : List Value} {K Φ : Value → World → Prop} (hy : Qt n ρ y = .func (.func f) #[] #[]) (hf : P.funcs[f]? = some fn) (hname : (fn.name == "runtime.NumGoroutine") = false) (hb : fn.body = some c)
    (ha:(xs.map (Qt n ρ)).toList=args) (hc:CallsTo P f args w Φ) (h:∀ v w',Φ v w'->K v w'):Eff P ⟨d,.call ⟨.value y,xs,aT⟩,t,p,af,gu⟩ n ρ w K:=by
  have e:xs.map (Qt n ρ)=args.toArray:=by rw [<-ha]
  have this:∀ w es,(execOp (Qt n ρ) ⟨d,.call ⟨.value y,xs,aT⟩,t,p,af,gu⟩).runT P w es=(.ok (.enter f args.toArray) w,es):=fun w es=>by
    refine Eq.trans ?_ (Qly (args:=args.toArray) hf hname hb);simp only [execOp,resolve,Deferred.ofValue,invoke,e,hy,pure_bind,Array.empty_append,Array.append_empty]
  refine ⟨(Tame.still _ this).fr,.inr fun w1 r=>?_⟩;rw [show (execOp (Qt n ρ) ⟨d,.call ⟨.value y,xs,aT⟩,t,p,af,gu⟩).run P w1=_ from by rw [<-Sem.runT_fst P _ w1 #[],this]];exact CallsJ.rely (CallsTo.mono hc h) r
theorem At.elem {a:Addr} {cs:List Value} {i:Nat} {u:Value} (h:At w a cs) (hi:cs[i]?=some u):At w (a.add (i * 1)) [u]:=by
 have h2:=(At.drop h i).take 1;rw [Nat.mul_one];obtain ⟨hl,he⟩:=List.getElem?_eq_some_iff.1 hi;have:(cs.drop i).take 1=[u]:=by rw [List.drop_eq_getElem_cons hl];simp [he]
 rwa [this] at h2
end
end Go.Gw
namespace Go.Gw
open Go
end Go.Gw

end
section
set_option linter.unusedSectionVars false
namespace Go.Gw
open Go
section
variable {P:Program} [JD P] {n:Nat} {ρ:Env} {w:World}
variable {d:Option Nat} {t T U:TypeId} {p:String} {af:Array Edge} {gu:Option (Nat×Bool)} {x y z:Operand}

theorem QSe {cells zero:List Value} {m e sz:Nat} {parts:List (Nat×Operand)} {pc:List (Nat×List Value)} (hu:P.underlying T=some (.array m e)) (hs:Xp P e sz) (hz:ZI P T zero) (hp:PC n ρ parts pc)
  (h:Qcb (fun i=>some (i * sz,sz)) zero pc=some cells):Yl P n ρ ⟨d,.build T parts.toArray,t,p,af,gu⟩ w (.agg cells.toArray):=by
 obtain ⟨it,z,h1,h3,h4⟩:=hz.ex;obtain ⟨ie,he,hsz⟩:=hs;have h':P.built T (parts.toArray.map fun (i,x)=>(i,Qt n ρ x)).toList=some cells.toArray:=by
  simp only [Program.built,h1,hu,h3,he,hsz];have:=Qjj _ _ _ (hp.fill h);have hz':z.cells=zero.toArray:=by rw [<-h4]
  rw [hz',Array.toList_map];simpa using this
 exact ZA (YO (Qzd _ _)) fun w1 _=>by simp only [execOp,Sem.run_bind,run_build w1 T _ _ h',Result.andThen,Sem.run_pure]

theorem QOd {cs:List Value} {off:Nat} {v:Value} (hT:YY P T) (h:cs[off]?=some v):(part T cs.toArray off).run P w=.ok v w:=by
 simp [part,Qyc hT,h]
end
end Go.Gw

end
section
set_option linter.unusedSectionVars false
namespace Go.Gw
open Go
section
variable {P:Program} [JD P] {n:Nat} {q:Post} {ρ:Env} {w:World}

inductive Pl where
 | done
 | p (i:Nat) (r:Pl)
 | q (i:Nat) (r:Pl)
 | e (i:Nat) (r:Pl)
 | b (i:Nat) (r:Pl)
 | f (i:Nat) (r:Pl) (j:Nat) (s:Pl)
def Pl.hasQ:Pl->Bool
 | .done=>false
 | .p _ r=>r.hasQ
 | .q _ _=>true
 | .e _ r=>r.hasQ
 | .b _ _=>false
 | .f _ r _ s=>r.hasQ||s.hasQ
def Pl.len:Pl->Nat
 | .done=>0
 | .p _ r=>r.len+1
 | .q _ r=>r.len+1
 | .e _ r=>r.len+1
 | .b _ r=>r.len+1
 | .f _ r _ _=>r.len+1
def Pl.brk:Pl->List Nat
 | .done=>[]
 | .p _ r=>r.brk
 | .q _ r=>r.brk
 | .e _ r=>r.brk
 | .b i r=>i::r.brk
 | .f _ r _ s=>r.brk++s.brk

def TP (P:Program) [JD P] (n:Nat) (ops:List Oper) (S:World->Prop) (K:Env->World->Prop):Pl->Env->World->Prop
  | .done,ρ,w=>K ρ w
  | .p i r,ρ,w=>∃ o v,ops[i]?=some o/\Quiet P n ops.toArray (fun _=>True) o ρ v/\TP P n ops S K r (Xu ρ o.dst v) w
  | .q i r,ρ,w=>∃ o v,ops[i]?=some o/\Quiet P n ops.toArray S o ρ v/\TP P n ops S K r (Xu ρ o.dst v) w
  | .e i r,ρ,w=>∃ o,ops[i]?=some o/\Stp P n ops.toArray o ρ w (fun ρ' w'=>S w'/\TP P n ops S K r ρ' w')
  | .b i r,ρ,w=>∃ o,ops[i]?=some o/\Stp P n ops.toArray o ρ w (fun ρ' w'=>TP P n ops S K r ρ' w')
  | .f i r j s, ρ, w => (∃ o, ops[i]? = some o /\ Stp P n ops.toArray o ρ w (fun ρ' w' => S w' /\ TP P n ops S K r ρ' w')) /\
      (∃ o,ops[j]?=some o/\Stp P n ops.toArray o ρ w (fun ρ' w'=>S w'/\TP P n ops S K s ρ' w'))

def Jg (ops:Array Oper) (bs:List Nat):Pl->Array Bool->Bool
 | .done,listed=>(Region.ready .any ops listed).isEmpty
 | .p i r,listed=>Region.free .any ops listed i&&(Region.ready .any ops listed).contains i&&Jg ops bs r (listed.setIfInBounds i true)
 | .q i r,listed=>(bs.all fun b=>Qcg ops ops.size b i)&&Region.free .any ops listed i&&(Region.ready .any ops listed).contains i&&Jg ops bs r (listed.setIfInBounds i true)
 | .e i r,listed=>Region.ready .any ops listed == [i]&&(!bs.contains i&&Jg ops bs r (listed.setIfInBounds i true))
 | .b i r,listed=>Region.ready .any ops listed == [i]&&(bs.contains i&&(!r.hasQ&&Jg ops bs r (listed.setIfInBounds i true)))
 | .f i r j s,listed=>Region.ready .any ops listed == [i,j]&&(Nat.beq r.len s.len&&(!bs.contains i&&(!bs.contains j&&(Jg ops bs r (listed.setIfInBounds i true)&&Jg ops bs s (listed.setIfInBounds j true)))))

def Qxj (ops:Array Oper) (p:Pl):Bool:=Region.noSelect ops&&(Nat.beq p.len ops.size&&Jg ops p.brk p (Array.replicate ops.size false))

theorem QRd {listed:Array Bool} {i x:Nat} (h:(listed.setIfInBounds i true).getD x true=false):listed.getD x true=false/\x≠i:=by
 by_cases hx:i=x
 ·subst hx;exfalso;by_cases hl:i < listed.size<;>simp [Array.getD,hl] at h
 ·rw [getD_set_ne true hx] at h;exact ⟨h,fun e=>hx e.symm⟩

section
variable {S:World->Prop} {K:Env->World->Prop} {ops:List Oper} {o:Oper} {i:Nat} {r:Pl} {v:Value}
end
end
end Go.Gw

end
section
set_option linter.unusedSectionVars false
namespace Go.Gw
open Go
section
variable {P:Program} [JD P] {n:Nat} {ρ:Env} {w:World}
variable {d:Option Nat} {t T U:TypeId} {p:String} {af:Array Edge} {gu:Option (Nat×Bool)} {x y z:Operand}

theorem Qun {α:Type} [Rep α] {e:TypeId} {L:List Value} {v:Value} {xs:List α} {i:Int} {el y':α} {off k:Nat} {u:Value} {vs:List Value} {K:Value->World->Prop} (hs:Xp P T k) (hc:u.cells.toList=vs) (hk:vs.length=k) (hown:Own e L w v xs) (hv:v∈L) (hel:idx xs i=some el)
  (hx:Qt n ρ x=.pointer (some ((YL v i.toNat (Rep.n α)).add off))) (hy:Qt n ρ y=u) (hl:Nat.ble (off+k) (Rep.n α)=true) (h1:∀ c∈vs,c.oneCell'=true)
  (hset:∀ w' cs,Rep.rd L w' cs el->Rep.rd L w' (Za cs off vs) y')
  (h:∀ w',Chg [v] w w'->Own e L w' v (xs.set i.toNat y')->K undef w'):Eff P ⟨d,.store T x y,t,p,af,gu⟩ n ρ w K:=by
 subst hc;subst hk;have e:u.cells.toList.length=u.cells.size:=by simp
 exact QCp (by rw [<-e];exact hs) hown hv hel hx hy (by rw [<-e];simpa using hl) h1 hset h

def mk {α:Type} (i:Int) (zero:α):Option (List α):=if 0<=i/\i<=1048576 then some (List.replicate i.toNat zero) else none
theorem Qkt {α:Type} {i:Int} {zero:α} {xs:List α} (h:mk i zero=some xs):0<=i/\i<=1048576/\xs=List.replicate i.toNat zero:=by
 unfold mk at h;split at h
 ·rename_i hc;exact ⟨hc.1,hc.2,by cases h;rfl⟩
 ·cases h

theorem Elems.replicate {α:Type} [Rep α] {L:List Value} {c:Value} {zero:α} (h1:Rep.n α=1) (hz:Rep.rd L w [c] zero):∀ m:Nat,Elems L w (List.replicate m c) (List.replicate m zero)
 | 0=>Elems.nil
 | m+1=>by
  rw [List.replicate_succ,List.replicate_succ];exact Elems.cons (cs:=[c]) hz (Elems.replicate h1 hz m)

theorem QIh (c:Value) (m:Nat):(madeCells #[c] m).toList=List.replicate m c:=by
 apply List.ext_getElem
 ·simp [madeCells]
 ·intro i h1 h2;simp [madeCells,Nat.mod_one]

theorem Qum {α:Type} [Rep α] {e:TypeId} {bytes:Nat} {c:Value} {L:List Value} {i:Int} {zero:α} {xs:List α} {k k':IntKind} {K:Value->World->Prop} (h1:Rep.n α=1) (hu:P.underlying T=some (.slice e)) (hi:EInfo P e 1 bytes c) (hcc:c.cells=#[c])
    (hbm:Nat.ble bytes 65536=true) (hz:∀ L w,Rep.rd L w [c] zero) (hx:Qt n ρ x=.int k i) (hy:Qt n ρ y=.int k' i) (hm:mk i zero=some xs)
    (h:∀ v w',Ext w w'->(∀ b,Qh v=some b->w.heap.size<=b)->Own e (v::L) w' v xs->K v w'):Eff P ⟨d,.makeSlice T x y,t,p,af,gu⟩ n ρ w K:=by
  obtain ⟨h0,hmax,rfl⟩:=Qkt hm;obtain ⟨ti,g1,g2,g3,g4,_,_⟩:=hi.ex;have hbm:bytes<=65536:=by simpa using hbm
  obtain ⟨m,rfl⟩:∃ m:Nat,i=(m:Int):=⟨i.toNat,by omega⟩;have hmm:m<=1048576:=by omega
  have hb:ti.bytes * m<=281474976710656:=by
    rw [g3]
    calc bytes * m<=65536 * 1048576:=Nat.mul_le_mul hbm hmm
      _<=_:=by decide
  refine ZQ (YO (Qsf _ _ _)) fun w1 e1=>?_;obtain ⟨w',hr,ho,hg⟩:=run_makeSlice_full (P:=P) (w:=w1) 0 T e ti c 1 hu g1 g4 g2 k k' m (by omega) hb (by unfold maxLen;omega) (Nat.zero_le _);have he:Ext w1 w':=⟨hg.os,hg.tape,hg.output,hg.size,fun b hb _=>hg.block b hb (fun e=>by cases e)⟩;simp only [execOp,hx,hy,Sem.run_bind,hr,Result.andThen,Sem.run_pure,effR];refine h _ w' (e1.trans he) (fun b hb=>by have:=e1.size;simp [Qh] at hb;omega) ⟨(madeCells c.cells (m * 1)).toList,?_,?_⟩
  · rw [h1,List.length_replicate,Int.toNat_natCast];exact ho
  · rw [hcc,Nat.mul_one,QIh,Int.toNat_natCast];exact Elems.replicate h1 (hz _ _) m
end
end Go.Gw

end
section
set_option linter.unusedSectionVars false
namespace Go.Gw
open Go
section
variable {P:Program} [JD P] {n:Nat} {ρ:Env} {w:World}
variable {d:Option Nat} {t T U:TypeId} {p:String} {af:Array Edge} {gu:Option (Nat×Bool)} {x y z:Operand}

theorem SlRd.of_box {b off len cap:Nat} {ys:List Int} {cs:List Value} {T':TypeId} {L:List Value} (hb:Box w b cs T') (hA:Avoids L b) (hcs:(cs.drop off).take len=ys.map (Value.int .i64)) (hl:ys.length=len) (hlc:len<=cap) (hc:Nat.ble (off+cap) cs.length=true) (hm:Nat.ble cap 1048576=true) :
  SlRd L w (.slice (some ⟨b,off,none⟩) len cap) ys:=by
 subst hl;have hc:off+cap<=cs.length:=by simpa using hc
 have hm:cap<=1048576:=by simpa using hm
 refine .inr ⟨b,off,cap,cs.toArray,T',(0,0),rfl,hb,hA,hlc,by unfold maxLen;omega,by show off+cap * 1<=_;simp;omega,?_⟩;have:ys.length * Rep.n Int=ys.length:=Nat.mul_one _;rw [this,show cs.toArray.toList=cs from rfl,hcs];refine ⟨by simp [this],fun i x hx=>?_⟩;show ((ys.map (Value.int .i64)).drop (i * 1)).take 1=[.int .i64 x];obtain ⟨hi,he⟩:=List.getElem?_eq_some_iff.1 hx;rw [Nat.mul_one,List.drop_eq_getElem_cons (by simpa using hi)];simp [he]

theorem Qcw {L:List Value} {b:Nat} (hL:LtL L w) (hb:w.heap.size<=b):Avoids L b:=fun x hx e=>by have:=hL x hx b e;omega
end
end Go.Gw
namespace Go.Gw
end Go.Gw

end
section
set_option linter.unusedSectionVars false
namespace Go.Gw
open Go
section
variable {P:Program} [JD P] {n:Nat} {ρ:Env} {w:World}
theorem QAe {ops:Array Oper} {K:Env->World->Prop} {o:Oper} {os:List Oper} (Φ:Value->World->Prop) (b:Bool) (hw:X0 ops o n ρ=b) (ht:b=true->Eff P o n ρ w (fun v w'=>Ext w w'/\Φ v w'))
    (h:∀ v w',Ext w w'->(b=true->Φ v w')->T0 P n ops K os (Xu ρ o.dst (gd b v)) w'):T0 P n ops K (o::os) ρ w :=
  Qsv b hw (fun hb=>(ht hb).mono fun v w' ⟨he,hv⟩=>by have:=h v w' he (fun _=>hv);rw [Qp hb] at this;exact this)
    (fun hb=>by have:=h undef w (Chg.refl _ _) (fun hb'=>by rw [hb] at hb';cases hb');rw [Qgj hb] at this;exact this)
end
end Go.Gw

end
section
set_option linter.unusedSectionVars false
namespace Go.Gw
open Go
section
variable {P:Program} [JD P] {n:Nat} {q:Post} {ρ:Env} {w:World}
end
end Go.Gw

end
section
set_option linter.unusedSectionVars false
namespace Go.Gw
open Go
section
variable {P:Program} [JD P] {n:Nat} {ρ:Env} {w w':World}
variable {d:Option Nat} {t T U:TypeId} {p:String} {af:Array Edge} {gu:Option (Nat×Bool)} {x y z:Operand}
theorem Qad {f:FuncId} {cap:Array Operand} {cs:List Value} (h:(cap.map (Qt n ρ)).toList=cs):Yl P n ρ ⟨d,.makeFunc (.func f) #[] cap,t,p,af,gu⟩ w (.func (.func f) #[] cs.toArray):=by
 have e:cap.map (Qt n ρ)=cs.toArray:=by rw [<-h]
 exact YA fun w es=>by simp [execOp,Instr.makeFunc,e,go_sem]
theorem Qbb {f : FuncId} {fn : Func} {c : Code} {xs : Array Operand} {aT : Array TypeId} {cs us args : List Value} {K Φ : Value → World → Prop} (hy : Qt n ρ y = .func (.func f) #[] cs.toArray) (hf : P.funcs[f]? = some fn) (hname : (fn.name == "runtime.NumGoroutine") = false) (hb : fn.body = some c)
    (ha:(xs.map (Qt n ρ)).toList=us) (hargs:us++cs=args) (hc:CallsTo P f args w Φ) (h:∀ v w',Φ v w'->K v w'):Eff P ⟨d,.call ⟨.value y,xs,aT⟩,t,p,af,gu⟩ n ρ w K:=by
  have e:xs.map (Qt n ρ)=us.toArray:=by rw [<-ha]
  have this:∀ w es,(execOp (Qt n ρ) ⟨d,.call ⟨.value y,xs,aT⟩,t,p,af,gu⟩).runT P w es=(.ok (.enter f args.toArray) w,es):=fun w es=>by
    subst hargs;refine Eq.trans ?_ (Qly (args:=(us++cs).toArray) hf hname hb);simp only [execOp,resolve,Deferred.ofValue,invoke,e,hy,pure_bind,List.append_toArray,List.nil_append]
  refine ⟨(Tame.still _ this).fr,.inr fun w1 r=>?_⟩;rw [show (execOp (Qt n ρ) ⟨d,.call ⟨.value y,xs,aT⟩,t,p,af,gu⟩).run P w1=_ from by rw [<-Sem.runT_fst P _ w1 #[],this]];exact CallsJ.rely (CallsTo.mono hc h) r
def QTg (H:List Value) (w:World) (b:Nat):Prop:=w.heap.size<=b\/¬ Avoids H b
theorem Stepp.swap2 {L:List Value} {v v':Value} {b:Nat} (h:Chg [v,.pointer (some ⟨b,0,none⟩)] w w') (hv:∀ k,Qh v'=some k->Qh v=some k\/w.heap.size<=k):Stepp (v::.pointer (some ⟨b,0,none⟩)::L) w (v'::.pointer (some ⟨b,0,none⟩)::L) w' :=
 .of (h.mono (fun y hy=>by
  rcases List.mem_cons.1 hy with rfl | hy
  ·simp
  ·rcases List.mem_singleton.1 hy with rfl;simp)) fun y hy k e=>by
  rcases List.mem_cons.1 hy with rfl | hy
  ·rcases hv k e with h | h
   ·exact .inl (Qbj (List.mem_cons_self ..) h)
   ·exact .inr h
  ·exact .inl (Qbj (List.mem_cons_of_mem _ hy) e)
theorem Qiv {v:Value} {b b':Nat} (h:Qh v≠some b) (h2:b'≠b):Avoids [v,.pointer (some ⟨b',0,none⟩)] b:=fun x hx e=>by
 rcases List.mem_cons.1 hx with rfl | hx
 ·exact h e
 ·rcases List.mem_singleton.1 hx with rfl;simp [Qh] at e;exact h2 e
theorem Qbx {v:Value} {b:Nat} {w0:World} (h:Ext w0 w) (c:Chg [v,.pointer (some ⟨b,0,none⟩)] w w') (hf:∀ k,Qh v=some k->w0.heap.size<=k) (hb:w0.heap.size<=b):Ext w0 w':=Chg.fresh h c (fun x hx n e=>by
 rcases List.mem_cons.1 hx with rfl | hx
 ·exact hf n e
 ·rcases List.mem_singleton.1 hx with rfl;simp [Qh] at e;omega)
theorem Qty {v:Value} {hi k:Nat}:Qh (XP v 0 hi k)=Qh v:=by
 cases v<;>try rfl
 rename_i a len cap;cases a with
 | none=>simp [XP,Qh]
 | some a =>
  simp only [XP,Nat.zero_mul];split
  ·rfl
  ·simp only [Option.map_some,Qh];unfold Addr.add;split<;>rfl
theorem Own.cutf {α:Type} [Rep α] {e:TypeId} {L:List Value} {v:Value} {xs ys:List α} {hi:Int} (h:Own e L w v xs) (hc:cut xs 0 hi=some ys):Own e L w (XP v 0 hi.toNat (Rep.n α)) ys:=by
  obtain ⟨h0,h1,h2,rfl⟩:=Qea hc;obtain ⟨cells,⟨hl,ho⟩,hel⟩:=h;have hk:hi.toNat<=xs.length:=by omega
  have hlen:((xs.take hi.toNat).drop (0:Int).toNat).length=hi.toNat:=by simp;omega
  have ht:(xs.take hi.toNat).drop (0:Int).toNat=xs.take hi.toNat:=by simp
  have hle:hi.toNat * Rep.n α<=cells.length:=by rw [hl];exact Nat.mul_le_mul_right _ hk
  refine ⟨cells.take (hi.toNat * Rep.n α),⟨by rw [hlen,List.length_take];omega,?_⟩,?_⟩
  · rcases ho with ⟨rfl,hz⟩ | ⟨g,cap,cur,rfl,hb,hh,h4,h5,h6,h7⟩
    · left;rw [hlen];have:hi.toNat=0:=by omega
      simp [XP,this]
    · right;refine ⟨g,cap,cur,?_,hb,hh,by rw [hlen];omega,h5,h6,?_⟩
      · rw [hlen];simp only [XP,Nat.zero_mul,Nat.sub_zero];congr 1;split
        · rfl
        · simp only [Option.map_some];rw [YZ]
      · rw [hlen,<-h7,List.take_take];congr 1;have:=Nat.mul_le_mul_right (Rep.n α) hk;omega
  · rw [ht];refine ⟨by rw [List.length_take,List.length_take,hl];have:=Nat.mul_le_mul_right (Rep.n α) hk;rw [Nat.min_eq_left this,Nat.min_eq_left hk],fun i x hx=>?_⟩;have hi2:i < hi.toNat:=by
      rcases Nat.lt_or_ge i hi.toNat with h | h
      · exact h
      · rw [List.getElem?_eq_none (by rw [List.length_take];omega)] at hx;cases hx
    rw [List.getElem?_take_of_lt hi2] at hx;have:=hel.2 i x hx;have hlt:i * Rep.n α+Rep.n α<=hi.toNat * Rep.n α:=by rw [<-Nat.succ_mul];exact Nat.mul_le_mul_right _ hi2
    rw [List.drop_take,List.take_take];rw [Nat.min_eq_left (by omega)];exact this
theorem QSj {α:Type} [Rep α] {e e2:TypeId} {L:List Value} {w2:World} {v:Value} {xs ys:List α} {k':IntKind} {hi:Int} (hu:P.underlying T=some (.slice e)) (hz:Xp P e (Rep.n α)) (hs:Own e2 L w2 v xs) (hc:cut xs 0 hi=some ys)
  (hx:Qt n ρ x=v) (hh:Qt n ρ z=.int k' hi):Yl P n ρ ⟨d,.slice T x none (some z) none,t,p,af,gu⟩ w (XP v 0 hi.toNat (Rep.n α)) :=
 Qds hu hz ((hs.sub (L':=[]) (fun _ h=>by cases h)).rd (fun b _=>Avoids.nil b)) hc hx hh
theorem Stepp.ren {L:List Value} {v v':Value} (h:Qh v'=Qh v):Stepp (v::L) w (v'::L) w:=Stepp.swap (Chg.refl _ _) (fun b hb=>.inl (by rw [<-h];exact hb))
end
end Go.Gw

end
section
set_option linter.unusedSectionVars false
namespace Go.Gw
open Go
def Qrj (k:IntKind) (a b:Int):Option Int:=if 0<=b/\b<=k.bits then some (a.fdiv (2 ^ b.toNat)) else none
section
variable {P:Program} [JD P] {n:Nat} {ρ:Env} {w w':World}
variable {d:Option Nat} {t T U:TypeId} {p:String} {af:Array Edge} {gu:Option (Nat×Bool)} {x y z:Operand}
end
end Go.Gw

end
section
set_option linter.unusedSectionVars false
namespace Go.Gw
open Go
def isnil:Value->Bool
 | .slice none _ _=>true
 | _=>false
section
variable {P:Program} [JD P] {n:Nat} {ρ:Env} {w w':World}
variable {d:Option Nat} {t T U:TypeId} {p:String} {af:Array Edge} {gu:Option (Nat×Bool)} {x y z:Operand}
theorem Qss {α:Type} [Rep α] {e:TypeId} {L:List Value} {w2:World} {v:Value} {xs:List α} (hu:P.underlying T=some (.slice e)) (hs:SlRd L w2 v xs) (hx:Qt n ρ x=v) (hy:Qt n ρ y=.slice none 0 0) :
  Yl P n ρ ⟨d,.binOp .eql T x y U,t,p,af,gu⟩ w (.bool (isnil v)):=by
 have:∃ a m c,v=.slice a m c:=by
  rcases hs with ⟨a0,h,_⟩ | ⟨b,off,cap,cur,e,fz,h1,_⟩
  ·exact ⟨_,_,_,h⟩
  ·exact ⟨_,_,_,h1⟩
 obtain ⟨a,m,c,rfl⟩:=this;have h1:∀ w,(Op.equal T (.slice a m c) (.slice none 0 0)).run P w=.ok a.isNone w:=fun w=>by
  simp [Op.equal,Op.maxDepth,Lib.run_equalIn_slice_nil w 9999 T e a m c 0 0 hu]
 have ht:Tame P (Op.equal T (.slice a m c) (.slice none 0 0)):=by
  rw [Op.equal,show Op.maxDepth=9999+1 from rfl,Op.equalIn];refine .und hu ?_;cases a<;>exact .pure _
 have h2:a.isNone=isnil (.slice a m c):=by cases a<;>rfl
 rw [<-h2];exact ZA (YO (by simp only [eqGuard,binOp,hx,hy];exact .bnd (.pure _) fun _=>.bnd ht fun _=>.pure _)) fun w1 _=>by simp [execOp,hx,hy,eqGuard,binOp,h1,Result.andThen]
theorem SlRd.isnil {α:Type} [Rep α] {L:List Value} {v:Value} {xs:List α} (hs:SlRd L w v xs) (h:isnil v=true):xs=[]:=by
 rcases hs with ⟨a0,rfl,h2⟩ | ⟨b,off,cap,cur,e,fz,rfl,_⟩
 ·exact h2
 ·cases h
theorem Qqe {α β:Type} {xs:List α} {f:List α->Option β} {e:Option β} {r:β} (h0:xs=[]) (h:f xs=some r) (he:f []=e):e=some r:=by subst h0;rw [<-he];exact h
end
end Go.Gw

end
section
set_option linter.unusedSectionVars false
namespace Go.Gw
open Go
def U8:Type:=Int
instance:Rep U8:=⟨1,fun _ _ cs d=>cs=[.int .u8 d],fun h=>by subst h;rfl,fun h=>by subst h;simp [Value.oneCell'],fun _ h=>h⟩
def bl (s:ByteArray):List U8:=s.data.toList.map fun b=>((b.toNat:Nat):Int)
theorem J0 (s:ByteArray):(bl s).length=s.size:=by
 show (List.map (fun b:UInt8=>((b.toNat:Nat):Int)) s.data.toList).length=s.size;rw [List.length_map];rfl
theorem Qtv (a b:ByteArray):(a.toList == b.toList)=decide (a=b):=by
 rw [ByteArray.toList_eq,ByteArray.toList_eq];by_cases h:a=b
 ·subst h;simp
 ·have:¬ a.data.toList=b.data.toList:=fun e=>h (by cases a;cases b;simp at e;simp [e])
  rw [decide_eq_false h,beq_eq_false_iff_ne];exact this
def cat (a b:ByteArray):Option ByteArray:=if a.size+b.size<=1048576 then some (a++b) else none
def tob (s:ByteArray):Option (List U8):=if s.size<=1048576 then some (bl s) else none
section
variable {P:Program} [JD P] {n:Nat} {ρ:Env} {w:World}
variable {d:Option Nat} {t T U:TypeId} {p:String} {af:Array Edge} {gu:Option (Nat×Bool)} {x y z:Operand}
theorem Qin {a b:ByteArray} (hx:Qt n ρ x=.string a) (hy:Qt n ρ y=.string b):Yl P n ρ ⟨d,.binOp .eql T x y U,t,p,af,gu⟩ w (.bool (decide (a=b))):=YA fun w es=>by
 simp only [<-Qtv];simp [execOp,hx,hy,eqGuard,binOp,Op.stringOp]
theorem QSv {a b:ByteArray} (hx:Qt n ρ x=.string a) (hy:Qt n ρ y=.string b):Yl P n ρ ⟨d,.binOp .neq T x y U,t,p,af,gu⟩ w (.bool (!decide (a=b))):=YA fun w es=>by
 simp only [<-Qtv];simp [execOp,hx,hy,eqGuard,binOp,Op.stringOp,bne]
theorem Qzy {a b c:ByteArray} (h:cat a b=some c) (hx:Qt n ρ x=.string a) (hy:Qt n ρ y=.string b):Yl P n ρ ⟨d,.binOp .add T x y U,t,p,af,gu⟩ w (.string c):=YA fun w es=>by
 unfold cat at h;split at h
 ·rename_i hc;cases h;have:¬ ((a.size+b.size:Nat):Int) > IntKind.i64.max:=by simp [IntKind.max,IntKind.bits,IntKind.signed];omega
  simp only [execOp,hx,hy,eqGuard,binOp,Op.stringOp,if_neg this];simp
 ·cases h
theorem QFn {s:ByteArray} {i:Int} {el:U8} (h:idx (bl s) i=some el):(if 0<=i then s[i.toNat]? else none)=some (UInt8.ofNat (Int.toNat el))/\(((UInt8.ofNat (Int.toNat el)).toNat:Nat):Int)=el:=by
 obtain ⟨h0,h1,h2⟩:=Qda h;rw [J0] at h1;rw [if_pos h0,ByteArray.getElem?_lt' s _ h1];replace h2:((s.data.toList.map fun b=>((b.toNat:Nat):Int)):List Int)[i.toNat]?=some (el:Int):=h2;rw [List.getElem?_map] at h2;obtain ⟨b,hb,hbe⟩:=Option.map_eq_some_iff.1 h2;subst hbe;have e:s[i.toNat]=b:=by
  rw [List.getElem?_eq_some_iff] at hb;obtain ⟨_,hb⟩:=hb;rw [<-hb];rfl
 subst e;constructor
 ·congr 1;show _=UInt8.ofNat ((s[i.toNat].toNat:Int).toNat);rw [Int.toNat_natCast];simp
 ·show ((UInt8.ofNat ((s[i.toNat].toNat:Int).toNat)).toNat:Int)=(s[i.toNat].toNat:Int);rw [Int.toNat_natCast];simp
theorem QSq {k:IntKind} {s:ByteArray} {i:Int} {el:U8} (hu:P.underlying T=some .string) (hx:Qt n ρ x=.string s) (hy:Qt n ρ y=.int k i) (h:idx (bl s) i=some el):Yl P n ρ ⟨d,.index T x y,t,p,af,gu⟩ w (.int .u8 el):=by
 obtain ⟨h1,h2⟩:=QFn h;refine ZA (YO (Qzg _ _ _)) fun w1 _=>?_;simp only [execOp,hx,hy,Instr.index,asIntOf,pure_bind,Sem.run_bind,run_underlying hu,Result.andThen,h1,Sem.run_pure,h2]
def Jl (s:ByteArray) (cap:Nat):Array Value:=s.data.map (fun b=>Value.int .u8 b.toNat)++Array.replicate (cap - s.size) (.int .u8 0)
def Qia (e:TypeId) (s:ByteArray):Sem Value:=do
 let cap <-choose (.appendCap s.size 0 e)
 let b <-newObj (.cells (Jl s cap) e ((Jl s cap).size,(Jl s cap).size+1))
 pure (.slice (some ⟨b,0,none⟩) s.size cap)
theorem Qyq (e:TypeId) (s:ByteArray) (w:World) (es:Array Event):(Conv.stringToBytes e s).runT P w es=(Qia e s).runT P w es:=by
 unfold Conv.stringToBytes Qia markStringish;rw [show (choose (.appendCap s.size 0 e) >>= _:Sem Value)=(choose (.appendCap s.size 0 e)).bind _ from rfl,Go.Sem.runT_bind'];rw [show (choose (.appendCap s.size 0 e) >>= _:Sem Value)=(choose (.appendCap s.size 0 e)).bind _ from rfl,Go.Sem.runT_bind'];generalize (choose (.appendCap s.size 0 e)).runT P w es=r;obtain ⟨r,es⟩:=r;cases r with
 | halt h w=>rfl
 | ok cap w =>
  simp only [newRow,newObj,shape,freeze,Bind.bind,Sem.bind,Pure.pure,Sem.runT,World.shape?,Array.getElem?_push_size];unfold World.freeze;simp only [Nat.one_ne_zero,if_false];congr 2;congr 1;apply Array.ext_getElem?;intro i;rw [Array.getElem?_modify,Array.getElem?_push,Array.getElem?_push];by_cases hi:w.heap.size=i
  ·subst hi;simp [Jl]
  ·rw [if_neg hi];have:¬ i=w.heap.size:=fun e=>hi e.symm
   simp [this]
theorem QQv (e:TypeId) (s:ByteArray):Tame P (Conv.stringToBytes e s) :=
 .same _ _ (Qyq e s) (.bnd (Qdl _) fun cap=>.bnd (Qii _ rfl) fun b=>.pure _)
theorem QQm {e:TypeId} {s:ByteArray} (hu:P.underlying T=some .string) (hU:P.underlying U=some (.slice e)) (he:P.underlying e=some (.int .u8)):Tame P (convert T U (.string s)):=by
 unfold convert;exact .und hu (.und hU (.und he (QQv _ _)))
theorem QCy (s:ByteArray) (cap:Nat) (L:List Value):Elems L w (((Jl s cap).toList.drop 0).take (s.size * Rep.n U8)) (bl s):=by
 have e1:Rep.n U8=1:=rfl;have hl:(s.data.toList.map fun b=>Value.int .u8 b.toNat).length=s.size:=by rw [List.length_map];rfl
 have e2:((Jl s cap).toList.drop 0).take (s.size * Rep.n U8)=s.data.toList.map fun b=>Value.int .u8 b.toNat:=by
  rw [e1,Nat.mul_one,List.drop_zero];simp only [Jl,Array.toList_append,Array.toList_map];rw [List.take_append_of_le_length (by rw [hl];exact Nat.le_refl _),List.take_of_length_le (by rw [hl];exact Nat.le_refl _)]
 rw [e2];refine ⟨by rw [hl,J0,e1,Nat.mul_one],fun i x hx=>?_⟩;rw [e1,Nat.mul_one];replace hx:((s.data.toList.map fun b=>((b.toNat:Nat):Int)):List Int)[i]?=some (x:Int):=hx;rw [List.getElem?_map] at hx;obtain ⟨b,hb,hbe⟩:=Option.map_eq_some_iff.1 hx;subst hbe;show ((s.data.toList.map fun b=>Value.int .u8 b.toNat).drop i).take 1=[.int .u8 (b.toNat:Int)];obtain ⟨hi,he⟩:=List.getElem?_eq_some_iff.1 hb;rw [List.drop_eq_getElem_cons (by rw [List.length_map];exact hi)];simp [he]
theorem QCs {e:TypeId} {s:ByteArray} {xs:List U8} {L:List Value} {K:Value->World->Prop} (hu:P.underlying T=some .string) (hU:P.underlying U=some (.slice e)) (he:P.underlying e=some (.int .u8)) (hx:Qt n ρ x=.string s) (hs:tob s=some xs) (hlt:LtL L w)
    (h:∀ v w',Ext w w'->SlRd L w' v xs->K v w'):Eff P ⟨d,.convert T U x,t,p,af,gu⟩ n ρ w K:=by
  unfold tob at hs;split at hs
  · rename_i hsz;cases hs;refine ZQ (YO (by rw [hx];exact QQm hu hU he)) fun w1 e1=>?_;have hrun:(convert T U (.string s)).run P w1=(Qia e s).run P w1:=by
      have h1:=Qyq (P:=P) e s w1 #[];have h2:(convert T U (.string s)).run P w1=(Conv.stringToBytes e s).run P w1:=by
        simp [convert,run_underlying hu,run_underlying hU,run_underlying he]
      rw [h2,<-Sem.runT_fst P _ w1 #[],h1,Sem.runT_fst]
    generalize hcap:Question.cut (.appendCap s.size 0 e) (w1.tape w1.drawn (.appendCap s.size 0 e))=cap;have hcb:s.size<=cap/\cap<=maxLen:=by
      rw [<-hcap];simp only [Question.cut];have:=Nat.mod_lt (w1.tape w1.drawn (.appendCap s.size 0 e)) (show 0 < 2 ^ 63 - s.size by omega);unfold maxLen;omega
    have hr2:(Qia e s).run P w1=.ok (.slice (some ⟨w1.heap.size,0,none⟩) s.size cap) { w1 with drawn:=w1.drawn+1,heap:=w1.heap.push (.cells (Jl s cap) e ((Jl s cap).size,(Jl s cap).size+1)) }:=by
      simp [Qia,choose,newObj,Sem.run,Question.forced,hcap,Bind.bind,Sem.bind,Pure.pure]
    simp only [execOp,hx,Sem.run_bind,hrun,hr2,Result.andThen,Sem.run_pure,effR];refine h _ _ (e1.trans ⟨rfl,rfl,rfl,by simp,fun b hb _=>by simp [Array.getElem?_push_lt hb,Array.getElem?_eq_getElem hb]⟩) ?_;refine .inr ⟨w1.heap.size,0,cap,Jl s cap,e,((Jl s cap).size,(Jl s cap).size+1),by rw [J0],by simp,fun x hx e=>?_,by rw [J0];exact hcb.1,hcb.2,?_,?_⟩
    · have:=hlt x hx _ e;have:=e1.size;omega
    · have e3:Rep.n U8=1:=rfl;have:s.data.size=s.size:=rfl;simp [e3,Jl];omega
    · rw [J0];exact QCy s cap L
  · cases hs
end
end Go.Gw

end
section
set_option linter.unusedSectionVars false
namespace Go.Gw
open Go
section
variable {P:Program} [JD P] {n:Nat} {ρ:Env} {w:World}
variable {d:Option Nat} {t T U:TypeId} {p:String} {af:Array Edge} {gu:Option (Nat×Bool)} {x y z:Operand}

def cutf (v:Value) (hi k:Nat):Value:=match v with
 | .slice a _ _=>.slice (if hi=0 then a else a.map (·.add (0 * k))) hi hi
 | v=>v
def Qiq (v:Value):Prop:=∃ a k,v=.slice a k k

theorem SlRd.cutF {α:Type} [Rep α] {L:List Value} {w:World} {v:Value} {xs ys:List α} {hi:Int} (hs:SlRd L w v xs) (hc:Gw.cut xs 0 hi=some ys):SlRd L w (cutf v hi.toNat (Rep.n α)) ys:=by
  obtain ⟨h0,h1,h2,rfl⟩:=Qea hc;have hk:hi.toNat<=xs.length:=by omega
  rcases hs with ⟨a0,rfl,rfl⟩ | ⟨b,off,cap,cur,e,fz,rfl,hb,hA,h4,h5,h6,h7⟩
  · have:hi=0:=by simp at h2;omega
    subst this;exact .inl ⟨a0,by simp [cutf],by simp⟩
  · have hlen:((xs.take hi.toNat).drop (0:Int).toNat).length=hi.toNat:=by simp;omega
    have ht:(xs.take hi.toNat).drop (0:Int).toNat=xs.take hi.toNat:=by simp
    have hmul:=Nat.mul_le_mul_right (Rep.n α) hk;have hmul2:=Nat.mul_le_mul_right (Rep.n α) h4;refine .inr ⟨b,off,hi.toNat,cur,e,fz,?_,hb,hA,by rw [hlen];exact Nat.le_refl _,by omega,by omega,?_⟩
    · simp only [cutf,hlen];congr 1;split
      · rfl
      · simp only [Option.map_some,Nat.zero_mul];rw [YZ];rfl
    · rw [hlen,ht];refine ⟨by rw [List.length_take,List.length_take,List.length_drop,Array.length_toList,Nat.min_eq_left hk];omega,fun i x hx=>?_⟩;have hi2:i < hi.toNat:=by
        rcases Nat.lt_or_ge i hi.toNat with h | h
        · exact h
        · rw [List.getElem?_eq_none (by rw [List.length_take];omega)] at hx;cases hx
      rw [List.getElem?_take_of_lt hi2] at hx;have:=h7.2 i x hx;have hlt:i * Rep.n α+Rep.n α<=hi.toNat * Rep.n α:=by rw [<-Nat.succ_mul];exact Nat.mul_le_mul_right _ hi2
      rw [List.drop_take,List.take_take] at this ⊢;rw [Nat.min_eq_left (by omega)] at this ⊢;exact this
theorem QSi {α:Type} [Rep α] {e:TypeId} {L:List Value} {w2:World} {v:Value} {xs ys:List α} {k k':IntKind} {hi:Int} {u:Operand} (hu:P.underlying T=some (.slice e)) (hz:Xp P e (Rep.n α)) (hs:SlRd L w2 v xs) (hc:cut xs 0 hi=some ys)
  (hx:Qt n ρ x=v) (hh:Qt n ρ z=.int k hi) (hm:Qt n ρ u=.int k' hi):Yl P n ρ ⟨d,.slice T x none (some z) (some u),t,p,af,gu⟩ w (cutf v hi.toNat (Rep.n α)):=by
 obtain ⟨h0,h1,h2,_⟩:=Qea hc;obtain ⟨a,cap,hv,_⟩:=hs.shape;have hcap:xs.length<=cap:=by
  rcases hs with ⟨a0,rfl,rfl⟩ | ⟨b,off,cap',cur,e,fz,rfl,hb,hA,h4,_⟩
  ·exact Nat.zero_le _
  ·cases hv;exact h4
 subst hv;refine ZA (YO (Qfj _ _ _ _ _)) fun w1 _=>?_;have e1:=Qez (P:=P) (w:=w1) (k:=k') (i:=hi) (y:=cap) (c:=.slice3Acap) (by omega) (by omega);have e2:=Qez (P:=P) (w:=w1) (k:=k) (i:=hi) (y:=hi.toNat) (c:=.slice3B) (by omega) (by omega);simp [execOp,hx,hh,hm,Instr.sliceAt,Instr.slice,run_underlying hu,Instr.sliceBounds,e1,e2,ZK hz,cutf]

theorem QNz {α:Type} [Rep α] {e:TypeId} {bytes:Nat} {zz:Value} {L:List Value} {v vx:Value} {xs ys:List α}
    (hu:P.underlying T=some (.slice e)) (hi:EInfo P e (Rep.n α) bytes zz) (hr:SlRd L w v xs) (hf:Qiq v) (hs:SlRd L w vx ys) (hne:0 < ys.length)
    (hb:(xs.length+ys.length) * bytes<=140737488355328) (hm:xs.length+ys.length<=maxLen) :
    ∃ v' w',(Builtin.append_ #[T,T] t #[v,vx]).run P w=.ok v' w'/\Ext w w'/\(∀ b,Qh v'=some b->w.heap.size<=b)/\Own e (v'::L) w' v' (xs++ys):=by
  obtain ⟨i,h1,h2,h3,h4,h5,h6⟩:=hi.ex;rcases hs with ⟨a0,rfl,rfl⟩ | ⟨b,off,cap,cur,e',fz,rfl,hblk,hA,hcap,hcm,hsz,hely⟩
  · simp at hne
  have hnl:(((cur.toList.drop off).take (ys.length * Rep.n α))).length=ys.length * Rep.n α:=hely.1;have hnews:∀ j u,((cur.toList.drop off).take (ys.length * Rep.n α))[j]?=some u->w.cell? ((⟨b,off,none⟩:Addr).add j)=some u:=fun j u hu=>by
    rw [YZ];have hj:j < ys.length * Rep.n α:=by
      rcases Nat.lt_or_ge j (ys.length * Rep.n α) with h | h
      · exact h
      · rw [List.getElem?_eq_none (by rw [hnl];exact h)] at hu;cases hu
    rw [List.getElem?_take_of_lt hj,List.getElem?_drop] at hu;simp [World.cell?,hblk,<-hu]
  -- what lies there
  obtain ⟨olds,hol,hoe⟩:∃ olds:List Value,olds.length=xs.length * Rep.n α/\Elems L w olds xs:=by
    rcases hr with ⟨a0,rfl,rfl⟩ | ⟨_,_,_,_,_,_,_,_,_,_,_,_,h7⟩
    · exact ⟨[],by simp,Elems.nil⟩
    · exact ⟨_,h7.1,h7⟩
  have grown : ∀ (olds : List Value), olds.length = xs.length * Rep.n α -> Elems L w olds xs -> (Builtin.append_ #[T, T] t #[v, .slice (some ⟨b, off, none⟩) ys.length cap]).run P w = .ok (.slice (some ⟨w.heap.size, 0, none⟩) (xs.length + ys.length) (grownCap w (xs.length + ys.length) xs.length e)) (w.drew.alloc (.cells (olds.toArray ++ ((cur.toList.drop off).take (ys.length * Rep.n α)).toArray ++ Builtin.zeroCells zz.cells (grownCap w (xs.length + ys.length) xs.length e - (xs.length + ys.length))) e)) ->
      ∃ v' w',(Builtin.append_ #[T,T] t #[v,.slice (some ⟨b,off,none⟩) ys.length cap]).run P w=.ok v' w'/\Ext w w'/\(∀ b,Qh v'=some b->w.heap.size<=b)/\Own e (v'::L) w' v' (xs++ys):=fun olds hol hoe hr=>by
    have hge:=grownCap_ge w (xs.length+ys.length) xs.length e;have hcm:grownCap w (xs.length+ys.length) xs.length e<=maxLen:=grownCap_le_maxLen w _ _ e hm;have hE:Ext w (w.drew.alloc (.cells (olds.toArray++((cur.toList.drop off).take (ys.length * Rep.n α)).toArray++Builtin.zeroCells zz.cells (grownCap w (xs.length+ys.length) xs.length e - (xs.length+ys.length))) e)) :=
      ⟨rfl,rfl,rfl,by simp,fun k hk _=>heap_alloc_old w.drew _ hk⟩
    have hfr:∀ k,Qh (.slice (some ⟨w.heap.size,0,none⟩) (xs.length+ys.length) (grownCap w (xs.length+ys.length) xs.length e))=some k->w.heap.size<=k:=fun k hk=>by simp [Qh] at hk;omega
    have hlen:(olds++((cur.toList.drop off).take (ys.length * Rep.n α))).length=(xs.length+ys.length) * Rep.n α:=by rw [List.length_append,hol,hnl,Nat.add_mul]
    refine ⟨_,_,hr,hE,hfr,olds++((cur.toList.drop off).take (ys.length * Rep.n α)),⟨by rw [hlen,List.length_append],.inr ⟨w.heap.size,_,_,by rw [List.length_append],Nat.zero_le _,heap_alloc_new w.drew _,by rw [List.length_append];exact hge,hcm,?_,?_⟩⟩,?_⟩
    · simp only [Array.size_append,List.size_toArray,size_zeroCells,h5,hol,hnl,<-Nat.add_mul];congr 1;omega
    · simp only [Array.toList_append,List.append_assoc];rw [<-List.append_assoc,List.length_append,<-hlen];exact List.take_left
    · exact (hoe.append hely).step (Stepp.add _ hE hfr)
  obtain ⟨a,k,hv⟩:=hf;rcases hr with ⟨a0,rfl,rfl⟩ | ⟨b2,off2,cap2,cur2,e2,fz2,rfl,hblk2,hA2,hcap2,hcm2,hsz2,hely2⟩
  · refine grown [] (by simp) Elems.nil ?_;cases a0 with
    | none =>
      have hr:=run_append_nil (P:=P) w T t e i zz hu h1 h4 ⟨b,off,none⟩ ys.length cap _ (by rw [h2];exact hnl) hnews hne (by simp only [List.length_nil,Nat.zero_add] at hm;unfold maxLen at hm;omega) (by rw [h3];simp only [List.length_nil,Nat.zero_add] at hb;omega);simpa using hr
    | some a0 =>
      have hr:=run_append_grow (P:=P) w T t e i zz hu h1 h4 a0 0 0 [] (by simp) (fun j v hv=>by simp at hv) ⟨b,off,none⟩ ys.length cap _ (by rw [h2];exact hnl) hnews (by omega) (by simp only [List.length_nil,Nat.zero_add] at hm;unfold maxLen at hm;omega) (growslice_fits (by omega) (by rw [h3];simpa using hb));simpa using hr
  · cases hv;have holds:∀ j u,((cur2.toList.drop off2).take (xs.length * Rep.n α))[j]?=some u->w.cell? ((⟨b2,off2,none⟩:Addr).add j)=some u:=fun j u hu=>by
      rw [YZ];have hj:j < xs.length * Rep.n α:=by
        rcases Nat.lt_or_ge j (xs.length * Rep.n α) with h | h
        · exact h
        · rw [List.getElem?_eq_none (by rw [hely2.1];exact h)] at hu;cases hu
      rw [List.getElem?_take_of_lt hj,List.getElem?_drop] at hu;simp [World.cell?,hblk2,<-hu]
    refine grown _ hely2.1 hely2 ?_;exact run_append_grow (P:=P) w T t e i zz hu h1 h4 ⟨b2,off2,none⟩ xs.length xs.length _ (by rw [h2];exact hely2.1) holds ⟨b,off,none⟩ ys.length cap _ (by rw [h2];exact hnl) hnews (by omega) (by unfold maxLen at hm;omega) (growslice_fits (by omega) (by rw [h3];exact hb))

theorem QOb {α:Type} [Rep α] {e:TypeId} {bytes:Nat} {zz:Value} {L:List Value} {v vx:Value}
  (hu:P.underlying T=some (.slice e)) (hi:EInfo P e (Rep.n α) bytes zz) (hf:Qiq v) (hs:SlRd L w vx ([]:List α)):(Builtin.append_ #[T,T] t #[v,vx]).run P w=.ok v w:=by
 obtain ⟨i,h1,h2,h3,h4,h5,h6⟩:=hi.ex;obtain ⟨av,k,rfl⟩:=hf;obtain ⟨a0,c,rfl,_⟩:=hs.shape;have hl0:∀ a:Addr,(loadCells a 0).run P w=.ok #[] w:=fun a=>run_loadCells_list (P:=P) w a [] (fun j v hv=>by simp at hv)
 simp [Builtin.append_,run_underlying hu,sizeOf,typeInfo,h1,Builtin.lenOf,Builtin.firstCells];cases av<;>cases a0<;>simp [storeCells,hl0]
theorem Zi {α:Type} [Rep α] {e:TypeId} {bytes:Nat} {zz:Value} {L:List Value} {v vx:Value} {xs ys zs:List α} {K:Value->World->Prop} {aT:Array TypeId}
  (hu:P.underlying T=some (.slice e)) (hi:EInfo P e (Rep.n α) bytes zz) (hbm:Nat.ble bytes 65536=true) (hT:aT=#[T,T]) (hx:Qt n ρ x=v) (hy:Qt n ρ y=vx) (hown:Own e (v::L) w v xs) (hf:Qiq v) (hs:SlRd (v::L) w vx ys)
  (hz:app xs ys=some zs)
  (h:∀ v' w',Ext w w'->(∀ b,Qh v'=some b->Qh v=some b\/w.heap.size<=b)->Own e (v'::L) w' v' zs->K v' w'):Eff P ⟨d,.call ⟨.builtin .append,#[x,y],aT⟩,t,p,af,gu⟩ n ρ w K:=by
 subst hT;obtain ⟨hb,rfl⟩:=Qtj hz;have hbm:bytes<=65536:=by simpa using hbm
 have:(xs.length+ys.length) * bytes<=1073741824 * 65536:=Nat.mul_le_mul hb hbm;have e0:execOp (Qt n ρ) ⟨d,.call ⟨.builtin .append,#[x,y],#[T,T]⟩,t,p,af,gu⟩=(Builtin.append_ #[T,T] t #[v,vx] >>= fun v=>Pure.pure (Next.value v)):=by
  simp [execOp,resolve,invoke,builtin,hx,hy]
 refine ZQ (by rw [e0];exact YO (Qzb hu _ _ _)) fun w1 e1=>?_;rw [e0];have hown1:=hown.step (Stepp.ext e1) e1 (fun _ _=>Avoids.nil _);have hs1:=hs.step (Stepp.ext e1);rcases Nat.eq_zero_or_pos ys.length with hz | hz
 ·obtain rfl:=List.eq_nil_of_length_eq_zero hz;simp only [Sem.run_bind,QOb (t:=t) hu hi hf hs1,Result.andThen,Sem.run_pure,effR];rw [List.append_nil] at h;exact h v w1 e1 (fun b hb=>.inl hb) hown1
 ·obtain ⟨v',w',hr,hc,hbl,ho⟩:=Qyb (P:=P) (t:=t) hu hi hown1 hs1 (by omega) (by unfold maxLen;omega);obtain ⟨v2,w2,hr2,he2,_⟩:=QNz (P:=P) (t:=t) hu hi ((hown1.sub (L':=[]) (fun _ h=>by cases h)).rd (fun b _=>Avoids.nil b)) hf (hs1.sub (fun _ h=>by cases h)) hz (by omega) (by unfold maxLen;omega);rw [hr] at hr2;cases hr2;simp only [Sem.run_bind,hr,Result.andThen,Sem.run_pure,effR];exact h v' w' (e1.trans he2) (fun b hb=>(hbl b hb).imp id fun h=>Nat.le_trans e1.size h) ho
theorem ZY {α:Type} [Rep α] {e:TypeId} {bytes:Nat} {z:Value} {L:List Value} {K:Value->World->Prop} (hu:P.underlying T=some (.slice e)) (hi:EInfo P e (Rep.n α) bytes z)
  (h:∀ v w',Ext w w'->(∀ b,Qh v=some b->w.heap.size<=b)->Own e (v::L) w' v ([]:List α)->Qiq v->K v w'):Eff P ⟨d,.buildSlice T 0 #[],t,p,af,gu⟩ n ρ w K :=
 Qoe (xs:=[]) (cells:=[]) hu hi (by simp) (by simp [JU,Qcn]) Elems.nil rfl fun _ w' hb he _ ho=>h _ w' he (fun k hk=>by simp [Qh] at hk;omega) ho ⟨_,_,rfl⟩
/-! ### Whether an own slice is nil, told by its list -/
/-! ### Pointers that lie in arrays; loops of few rounds -/
theorem Yz {a:Addr} (hx:Qt n ρ x=.pointer (some a)):Yl P n ρ ⟨d,.nilCheck x,t,p,af,gu⟩ w (.pointer (some a)):=YA fun w es=>by
 simp only [execOp,hx];rfl
theorem Qmw {m e:Nat} {k:IntKind} {i:Int} {cs:List Value} {v:Value} (hu:P.underlying T=some (.array m e)) (hs:YY P e) (hz:Xp P e 1) (h0:0<=i) (h1:i < m) (hx:Qt n ρ x=.agg cs.toArray) (hy:Qt n ρ y=.int k i)
  (hv:cs[i.toNat]?=some v):Yl P n ρ ⟨d,.index T x y,t,p,af,gu⟩ w v:=by
 refine ZA (YO (Qzg _ _ _)) fun w1 _=>?_;have hp:(part e cs.toArray (i.toNat * 1)).run P w1=.ok v w1:=QOd hs (by rw [Nat.mul_one];exact hv);simp [execOp,hx,hy,Instr.index,asIntOf,run_underlying hu,h0,h1,ZK hz] at hp ⊢;simp [hp]
theorem Qip {s q:TypeId} {i j:Int} {b:Bool} (hb:decide (i < j)=b) (hx:Qt n ρ x=.int .i64 i) (hy:Qt n ρ y=.int .i64 j):Yl P n ρ ⟨d,.binOp .lss s x y q,t,p,af,gu⟩ w (.bool b):=hb▸Xi hx hy
theorem Qmt {s q:TypeId} {i j r:Int} (hb:w64 (i+j)=r) (hx:Qt n ρ x=.int .i64 i) (hy:Qt n ρ y=.int .i64 j):Yl P n ρ ⟨d,.binOp .add s x y q,t,p,af,gu⟩ w (.int .i64 r):=hb▸Q8 hx hy
def unr (P:Program) [JD P] (n:Nat) (c:Code) (q:Post):Nat->Env->World->Prop
 | 0=>fun _ _=>False
 | k+1=>fun ρ w=>WC P n c ⟨unr P n c q k,q.ex,q.ret⟩ ρ w
theorem Qik {c:Code} {q:Post} (k:Nat) (h:WC P n c ⟨unr P n c q k,q.ex,q.ret⟩ ρ w):unr P n c q (k+1) ρ w:=h
theorem QAo {c:Code} {q:Post} (k:Nat) (h:unr P n c q k ρ w):WC P n (.loop c) q ρ w:=by
 have hi:∀ k,YT (fun i:Nat=>match i with | 0=>some (.inr ()) | i+1=>some (.inl (β:=Unit) i)) (k+1) k=some ():=by
  intro k
  induction k with
  | zero=>rfl
  | succ k ih=>exact ih
 refine Qsy (fun s ρ w=>unr P n c q s ρ w) (hi k) h fun s ρ w hI=>?_;cases s with
 | zero=>exact hI.elim
 | succ s=>exact ⟨fun s' hs=>by cases hs;exact hI,fun hs=>nomatch hs⟩
theorem QCr {α:Type} [Rep α] {e:TypeId} {L:List Value} {v:Value} {xs:List α} {i:Int} {el y':α} {off:Nat} {u:Value} {K:Value->World->Prop} (hs:Xp P T u.cells.size) (hown:Own e L w v xs) (hv:v∈L) (hel:idx xs i=some el)
    (hx:Qt n ρ x=.pointer (some ((YL v i.toNat (Rep.n α)).add off))) (hy:Qt n ρ y=u) (hl:off+u.cells.size<=Rep.n α) (h1:∀ c∈u.cells.toList,c.oneCell'=true)
    (hset:∀ w',Chg [v] w w'->∀ cs,Rep.rd L w' cs el->Rep.rd L w' (Za cs off u.cells.toList) y')
    (h:∀ w',Chg [v] w w'->Own e L w' v (xs.set i.toNat y')->K undef w'):Eff P ⟨d,.store T x y,t,p,af,gu⟩ n ρ w K:=by
  refine ZQ (Qsj (Qsi _ _ _)) fun w1 e1=>?_;replace hown:=hown.step (Stepp.ext e1) e1 (fun _ _=>Avoids.nil _);obtain ⟨h0,hi,h2⟩:=Qda hel;obtain ⟨cells,ho,hE⟩:=hown;rcases ho.2 with ⟨_,hh⟩ | ⟨g,cap,cur,rfl,_,hg,h4,h5,hcs,htake⟩
  · omega
  · have hlen : i.toNat * Rep.n α + off + 0 + u.cells.toList.length <= cells.length := by
      have:(i.toNat+1) * Rep.n α<=xs.length * Rep.n α:=Nat.mul_le_mul_right _ hi;rw [Nat.succ_mul] at this;rw [hE.1];simp;omega
    obtain ⟨w',hr,ho2,hg2⟩:=Qri (P:=P) u.cells.toList (i.toNat * Rep.n α+off) 0 cells w1 ho hlen h1;have hx':Qt n ρ x=.pointer (some ⟨g,i.toNat * Rep.n α+off,none⟩):=by rw [hx];simp [YL,YZ]
    have hst:(Instr.storeAt T (.pointer (some ⟨g,i.toNat * Rep.n α+off,none⟩)) u).run P w1=.ok () w':=by
      simp [Instr.storeAt,Instr.sureAddr,storeVar,ZK hs,hr]
    simp only [execOp,hx',hy,Sem.run_bind,hst,Result.andThen,Sem.run_pure,effR];have hc:Chg [Value.slice (some ⟨g,0,none⟩) xs.length cap] w1 w':=⟨hg2.os,hg2.tape,hg2.output,hg2.size,fun b hb hA=>hg2.block b hb (fun e=>hA _ (List.mem_singleton.2 rfl) (by cases e;rfl))⟩;refine h w' ((e1.mono (fun _ h=>by cases h)).trans hc) ⟨_,by rw [List.length_set];exact ho2,?_⟩;have hE':=hE.step (Qo hc hv);refine ⟨by rw [Qyk,List.length_set];exact hE.1,fun j b hb=>?_⟩;by_cases hj:j=i.toNat
    · subst hj;rw [List.getElem?_set_self hi] at hb;cases hb;rw [Nat.add_zero,Qym _ _ _ _ _ (by simpa using hl)];exact hset _ ((e1.mono (fun _ h=>by cases h)).trans hc) _ (hE'.2 _ _ h2)
    · rw [List.getElem?_set_ne (Ne.symm hj)] at hb;rw [Nat.add_zero,Qyl]
      · exact hE'.2 _ _ hb
      · rcases Nat.lt_or_ge j i.toNat with hlt | hge
        · left;have:(j+1) * Rep.n α<=i.toNat * Rep.n α:=Nat.mul_le_mul_right _ hlt;rw [Nat.succ_mul] at this;omega
        · right;have:(i.toNat+1) * Rep.n α<=j * Rep.n α:=Nat.mul_le_mul_right _ (by omega);rw [Nat.succ_mul] at this;simp;omega
theorem QCq {α:Type} [Rep α] {e:TypeId} {L:List Value} {v:Value} {xs:List α} {i:Int} {el y':α} {off k:Nat} {u:Value} {vs:List Value} {K:Value->World->Prop} (hs:Xp P T k) (hc:u.cells.toList=vs) (hk:vs.length=k) (hown:Own e L w v xs) (hv:v∈L) (hel:idx xs i=some el)
  (hx:Qt n ρ x=.pointer (some ((YL v i.toNat (Rep.n α)).add off))) (hy:Qt n ρ y=u) (hl:Nat.ble (off+k) (Rep.n α)=true) (h1:∀ c∈vs,c.oneCell'=true)
  (hset:∀ w',Chg [v] w w'->∀ cs,Rep.rd L w' cs el->Rep.rd L w' (Za cs off vs) y')
  (h:∀ w',Chg [v] w w'->Own e L w' v (xs.set i.toNat y')->K undef w'):Eff P ⟨d,.store T x y,t,p,af,gu⟩ n ρ w K:=by
 subst hc;subst hk;have e:u.cells.toList.length=u.cells.size:=by simp
 exact QCr (by rw [<-e];exact hs) hown hv hel hx hy (by rw [<-e];simpa using hl) h1 hset h
theorem QZ {v:Value} {b off:Nat} {cs vs:List Value} {T':TypeId} {K:Value->World->Prop} {k:Nat} (hs:Xp P T k) (hv:v.cells.toList=vs) (hk:vs.length=k) (hx:Qt n ρ x=.pointer (some ⟨b,off,none⟩)) (hy:Qt n ρ y=v)
  (hb:Box w b cs T') (hl:Nat.ble (off+k) cs.length=true) (h1:∀ u∈vs,u.oneCell'=true) (hcs:Za cs off vs=vs)
  (h:∀ w',Chg [.pointer (some ⟨b,0,none⟩)] w w'->Box w' b vs T'->K undef w'):Eff P ⟨d,.store T x y,t,p,af,gu⟩ n ρ w K:=Zm hs hv hk hx hy hb hl h1 hcs h
theorem Q5 (w:World):Ext w w:=Chg.refl _ _
structure Way (L0:List Value) (w0:World) (L:List Value) (w:World):Prop where
 s:Stepp L0 w0 L w
theorem Way.refl (L:List Value) (w:World):Way L w L w:=⟨Stepp.sub w fun _ h=>h⟩
theorem Way.step {L0 L L':List Value} {w0 w w':World} (h:Way L0 w0 L w) (s:Stepp L w L' w'):Way L0 w0 L' w':=⟨h.s.trans s⟩
theorem Way.ext {L0 L:List Value} {w0 w w':World} (h:Way L0 w0 L w) (e:Ext w w'):Way L0 w0 L w':=h.step (Stepp.ext e)
theorem Way.sub {L0 L L':List Value} {w0 w:World} (h:Way L0 w0 L w) (hs:∀ x∈L',x∈L):Way L0 w0 L' w:=h.step (Stepp.sub w hs)
theorem SlRd.way {α:Type} [Rep α] {L0 L:List Value} {w0 w:World} {v:Value} {xs:List α} (h:SlRd L0 w0 v xs) (s:Way L0 w0 L w):SlRd L w v xs:=h.step s.s
theorem Rep.rd.way {α:Type} [Rep α] {L0 L:List Value} {w0 w:World} {cs:List Value} {a:α} (h:Rep.rd L0 w0 cs a) (s:Way L0 w0 L w):Rep.rd L w cs a:=Rep.step s.s h
theorem Way.way {L0 L1 L:List Value} {w0 w1 w:World} (h:Way L0 w0 L1 w1) (s:Way L1 w1 L w):Way L0 w0 L w:=h.step s.s
end
end Go.Gw

end
section
set_option linter.unusedSectionVars false
namespace Go.Gw
open Go
section
variable {α:Type} [Rep α] {L L':List Value} {w w':World} {b:Nat} {d:α} {v:Value} {o:Option α}
def PtAt (L:List Value) (w:World) (b:Nat) (d:α):Prop:=∃ (cs:List Value) (T:TypeId) (fz:Nat×Nat),w.heap[b]?=some (.cells cs.toArray T fz)/\Avoids L b/\Rep.rd L w cs d
theorem PtAt.step (h:PtAt L w b d) (s:Stepp L w L' w'):PtAt L' w' b d:=by
 obtain ⟨cs,T,fz,h1,h2,h3⟩:=h;obtain ⟨⟨fz',h4⟩,h5⟩:=s.keeps h1 h2;exact ⟨cs,T,fz',h4,h5,Rep.step s h3⟩
theorem PtAt.ext (h:PtAt L w b d) (e:Ext w w'):PtAt L w' b d:=h.step (Stepp.ext e)
theorem PtAt.at (h:PtAt L w b d):∃ cs,At w ⟨b,0,none⟩ cs/\Rep.rd L w cs d:=by
 obtain ⟨cs,T,fz,h1,_,h3⟩:=h;exact ⟨cs,At.of_block h1 (fun j v hv=>by simpa using hv),h3⟩
def PtRd (L:List Value) (w:World) (v:Value):Option α->Prop
 | none=>v=.pointer none
 | some d=>∃ b,v=.pointer (some ⟨b,0,none⟩)/\PtAt L w b d
theorem PtRd.step (h:PtRd L w v o) (s:Stepp L w L' w'):PtRd L' w' v o:=by
 cases o with
 | none=>exact h
 | some d=>obtain ⟨b,h1,h2⟩:=h;exact ⟨b,h1,h2.step s⟩
theorem PtRd.ext (h:PtRd L w v o) (e:Ext w w'):PtRd L w' v o:=h.step (Stepp.ext e)
theorem PtRd.sub (h:PtRd L w v o) (hs:∀ x∈L',x∈L):PtRd L' w v o:=h.step (Stepp.sub w hs)
theorem PtRd.way {L0:List Value} {w0:World} (h:PtRd L0 w0 v o) (s:Way L0 w0 L w):PtRd L w v o:=h.step s.s
theorem PtRd.one1 (h:PtRd L w v o):v.oneCell'=true:=by
 cases o with
 | none=>cases h;rfl
 | some d=>obtain ⟨b,rfl,_⟩:=h;rfl
theorem PtRd.nil (L:List Value) (w:World):PtRd L w (.pointer none) (none:Option α):=rfl
theorem PtRd.is (h:PtRd L w v (some d)):∃ b,v=.pointer (some ⟨b,0,none⟩)/\PtAt L w b d:=h
theorem PtRd.of_box {cs:List Value} {T:TypeId} (h:Box w b cs T) (hA:Avoids L b) (hr:Rep.rd L w cs d):PtRd L w (.pointer (some ⟨b,0,none⟩)) (some d):=⟨b,rfl,cs,T,(0,0),h,hA,hr⟩
theorem Qfy {b2 b:Nat} (h:b2≠b):Qh (.pointer (some ⟨b2,0,none⟩))≠some b:=fun e=>h (by simpa [Qh] using e)
theorem PtRd.get (h:PtRd L w v o) {r:α} (ho:o=some r):∃ b,v=.pointer (some ⟨b,0,none⟩)/\PtAt L w b r:=by subst ho;exact h
end
instance {α:Type} [Rep α]:Rep (Option α):=⟨1,fun L w cs o=>∃ v,PtRd L w v o/\cs=[v],fun ⟨v,_,h⟩=>by subst h;rfl,fun ⟨v,h1,h⟩ u hu=>by subst h;rw [List.mem_singleton.1 hu];exact h1.one1,fun s ⟨v,h1,h⟩=>⟨v,h1.step s,h⟩⟩
section
variable {P:Program} [JD P] {n:Nat} {ρ:Env} {w:World} {d:Option Nat} {t T U:TypeId} {p:String} {af:Array Edge} {gu:Option (Nat×Bool)} {x y:Operand}
theorem Zh {v:Value} {b:Nat} (hv:v=.pointer (some ⟨b,0,none⟩)) (hx:Qt n ρ x=v):Yl P n ρ ⟨d,.nilCheck x,t,p,af,gu⟩ w (.pointer (some ⟨b,0,none⟩)):=Yz (hx.trans hv)
/-! ### A slice of zero structs -/
theorem Qpy (z:Array Value) (m:Nat) (hz:0 < z.size):(madeCells z (m * z.size)).toList=(List.replicate m z.toList).flatten:=by
 unfold madeCells;simp only [Array.toList_map,Array.toList_range]
 induction m with
 | zero=>simp
 | succ m ih =>
  rw [Nat.succ_mul,Nat.add_comm,List.range_add,List.map_append,List.map_map,List.replicate_succ,List.flatten_cons,<-ih];congr 1
  ·apply List.ext_getElem
   ·simp
   ·intro i h1 h2;have hi:i < z.size:=by simpa using h2
    simp [Nat.mod_eq_of_lt hi,hi]
  ·apply List.map_congr_left;intro i _;simp [Nat.add_mod_left]
theorem Elems.rep {α:Type} [Rep α] {L:List Value} {w:World} {cs:List Value} {zero:α} (hz:Rep.rd L w cs zero):∀ m:Nat,Elems L w (List.replicate m cs).flatten (List.replicate m zero)
 | 0=>Elems.nil
 | m+1=>by
  rw [List.replicate_succ,List.replicate_succ,List.flatten_cons];exact Elems.cons hz (Elems.rep hz m)
theorem Qul {α:Type} [Rep α] {e:TypeId} {bytes s:Nat} {c:Value} {zcs:List Value} {L:List Value} {i:Int} {zero:α} {xs:List α} {k k':IntKind} {K:Value->World->Prop} (hs:Rep.n α=s) (h0s:Nat.ble 1 s=true) (h1s:Nat.ble s 16=true) (hu:P.underlying T=some (.slice e)) (hi:EInfo P e s bytes c) (hcc:c.cells=zcs.toArray) (hcl:zcs.length=s)
    (hbm:Nat.ble bytes 65536=true) (hz:∀ L w,Rep.rd L w zcs zero) (hx:Qt n ρ x=.int k i) (hy:Qt n ρ y=.int k' i) (hm:mk i zero=some xs)
    (h:∀ v w',Ext w w'->(∀ b,Qh v=some b->w.heap.size<=b)->Own e (v::L) w' v xs->K v w'):Eff P ⟨d,.makeSlice T x y,t,p,af,gu⟩ n ρ w K:=by
  obtain ⟨h0,hmax,rfl⟩:=Qkt hm;obtain ⟨ti,g1,g2,g3,g4,_,_⟩:=hi.ex;have hbm:bytes<=65536:=by simpa using hbm
  have h0s:1<=s:=by simpa using h0s
  have h1s:s<=16:=by simpa using h1s
  obtain ⟨m,rfl⟩:∃ m:Nat,i=(m:Int):=⟨i.toNat,by omega⟩;have hmm:m<=1048576:=by omega
  have hb:ti.bytes * m<=281474976710656:=by
    rw [g3]
    calc bytes * m<=65536 * 1048576:=Nat.mul_le_mul hbm hmm
      _<=_:=by decide
  have hms:m * s<=16777216:=Nat.le_trans (Nat.mul_le_mul hmm h1s) (by decide);refine ZQ (YO (Qsf _ _ _)) fun w1 e1=>?_;obtain ⟨w',hr,ho,hg⟩:=run_makeSlice_full (P:=P) (w:=w1) 0 T e ti c s hu g1 g4 g2 k k' m (by omega) hb (by unfold maxLen;omega) (Nat.zero_le _);have he:Ext w1 w':=⟨hg.os,hg.tape,hg.output,hg.size,fun b hb _=>hg.block b hb (fun e=>by cases e)⟩;simp only [execOp,hx,hy,Sem.run_bind,hr,Result.andThen,Sem.run_pure,effR];refine h _ w' (e1.trans he) (fun b hb=>by have:=e1.size;simp [Qh] at hb;omega) ⟨(madeCells c.cells (m * s)).toList,?_,?_⟩
  · rw [hs,List.length_replicate,Int.toNat_natCast];exact ho
  · have hsz:c.cells.size=s:=by rw [hcc];simpa using hcl
    rw [<-hsz,Qpy c.cells m (by omega),hcc,Int.toNat_natCast];exact Elems.rep (hz _ _) m
end
end Go.Gw

end
section
set_option linter.unusedSectionVars false
set_option linter.unusedVariables false
namespace Go.Gw
open Go
structure Opq where mk ::
 deriving DecidableEq,Inhabited
def OpqRd (L:List Value) (w:World) (v:Value) (o:Opq):Prop:=v.oneCell'=true
section
variable {L L':List Value} {w w':World} {v:Value} {o:Opq}
theorem OpqRd.step (h:OpqRd L w v o) (s:Stepp L w L' w'):OpqRd L' w' v o:=h
theorem OpqRd.ext (h:OpqRd L w v o) (e:Ext w w'):OpqRd L w' v o:=h
theorem OpqRd.one1 (h:OpqRd L w v o):v.oneCell'=true:=h
end
end Go.Gw

end
