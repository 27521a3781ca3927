/- Laws of the walk. Condition: each theorem says its own. -/
import Derived.Test.YtbigilldfhjedaaGreatDoorGwCloseRow
import Derived.Conc.Beside
import Derived.Conc.LeavingOf
set_option linter.unusedVariables false
set_option linter.unusedSimpArgs false
set_option linter.unusedSectionVars false
open Array renaming getElem?_eq_getElem→Ea,getElem?_eq_some_iff→Eb,getElem?_mapIdx→Ec,getElem?_setIfInBounds_ne→Ee
open Go.Gw.Rel renaming refl→Ed
open Nat renaming le_refl→Ef,lt_of_lt_of_le→Eg
section
set_option linter.unusedVariables false
namespace Go.Gw
open Go Go.Conc

/-! ### Ranks -/
inductive Tr where
 | leaf
 | mk (f:World->Tr)
def Tr.sub (x y:Tr):Prop:=∃ f w,y=.mk f/\x=f w
theorem Tr.acc (t:Tr):Acc Tr.sub t:=by
 induction t with
 | leaf=>exact ⟨_,fun y ⟨f,w,h,_⟩=>by cases h⟩
 | mk f ih=>exact ⟨_,fun y ⟨g,w,h,e⟩=>by simp_all⟩
def nt:Nat->Tr
 | 0=>.leaf
 | n+1=>.mk fun _=>nt n
theorem Qas (n:Nat):Tr.sub (nt n) (nt (n+1)):=⟨_,default,rfl,rfl⟩
def Qgz (l' l:List Tr):Prop:=∃ i x y,l[i]?=some x/\Tr.sub y x/\l'=l.set i y
theorem QGd:∀ x:Tr,∀ l:List Tr,Acc Qgz l->Acc Qgz (x::l):=fun x=>by
 induction Tr.acc x with
 | intro x _ ihx =>
  intro l hl
  induction hl with
  | intro l hl ihl =>
   refine ⟨_,fun l' ⟨i,a,b,h1,h2,h3⟩=>?_⟩;subst h3;cases i with
   | zero=>cases h1;exact ihx b h2 l ⟨l,hl⟩
   | succ i=>exact ihl _ ⟨i,a,b,by grind,h2,rfl⟩
theorem Qhb:∀ l:List Tr,Acc Qgz l
 | []=>⟨_,fun l' ⟨i,a,b,h1,_⟩=>by simp at h1⟩
 | x::l=>QGd x l (Qhb l)

/-! ### At the channel -/
section
variable {P:Program} {gs:Array Goroutine} {w w':World} {sl:Option (Nat×Nat)}
variable {c s r:Nat} {z v:Value} {i:Nat} {g:Goroutine} {rest:Rest}
end
end Go.Gw

end
section
set_option linter.unusedVariables false
namespace Go.Gw
open Go Go.Conc
open Go.ConcR (deafBehind_cons deafBehind_one)

structure View where
 F:Nat->Prop
 Z:Nat->Prop
 w:World
def Apart (x y:View):Prop:=∀ b,x.F b->y.F b->x.Z b/\y.Z b
theorem Apart.symm {x y:View} (h:Apart x y):Apart y x:=fun b hy hx=>(h b hx hy).symm
def Qaa (W:World) (x:View):View:={ x with w:={ x.w with heap:=x.w.heap++Array.replicate (W.heap.size - x.w.heap.size) YM,drawn:=W.drawn } }
theorem Qfm {W:World} {x:View}:Rel x.w (Qaa W x).w:=by
 refine ⟨rfl,rfl,rfl,by simp [Qaa],fun b hb=>?_,fun b h1 h2=>?_⟩
 ·grind [Array.getElem?_append_left,Qaa]
 simp_all [Qaa,Array.size_append,Array.size_replicate,Array.getElem?_append_right,Array.getElem?_replicate,if_pos]
theorem Agr.cut {F Z:Nat->Prop} {w W:World} (h:Agr F Z w W):Agr (fun b=>F b/\b < W.heap.size) Z w W :=
 ⟨h.tape,h.drawn,h.os,h.output,h.size,fun b hb hz=>h.own b hb.1 hz,fun b hb hz=>h.shr b hb.1 hz,fun b hb hlt=>h.hid b (fun hF=>hb ⟨hF,by rw [h.size];exact hlt⟩) hlt,fun b hz=>⟨h.zf b hz,by
  obtain ⟨cs,e,fz,h1,_⟩:=h.shr b (h.zf b hz) hz
  grind⟩⟩
theorem Agr.grown {F Z:Nat->Prop} {w W W':World} (h:Agr F Z w W) (x:View) (hx:x=⟨F,Z,w⟩) (hb:∀ b,F b->b < W.heap.size) (hs:W.heap.size<=W'.heap.size) (ht:W'.tape=W.tape) (ho:W'.os=W.os) (hou:W'.output=W.output)
  (hk:∀ b,F b->W'.heap[b]?=W.heap[b]?):Agr F Z (Qaa W' x).w W':=by
 subst hx;have hsz:(Qaa W' ⟨F,Z,w⟩).w.heap.size=W'.heap.size:=by
  have:=h.size;simp [Qaa];omega
 have Yk:∀ b,b < w.heap.size->(Qaa W' ⟨F,Z,w⟩).w.heap[b]?=w.heap[b]?:=fun b hb=>(Qfm (W:=W') (x:=⟨F,Z,w⟩)).block b hb
 refine ⟨ht.trans h.tape,rfl,ho.trans h.os,hou.trans h.output,hsz.symm,fun b hF hz=>?_,fun b hF hz=>?_,fun b hF hlt=>?_,h.zf⟩
 ·rw [Yk b (by rw [<-h.size];grind),hk b hF];exact h.own b hF hz
 ·obtain ⟨cs,e,fz,h1,h2⟩:=h.shr b hF hz
  grind
 ·rcases Nat.lt_or_ge b w.heap.size with h1 | h1
  ·rw [Yk b h1];exact h.hid b hF h1
  ·exact (Qfm (W:=W') (x:=⟨F,Z,w⟩)).fresh b h1 hlt

/-! ### What a step may list -/
theorem Qrd {F Z:Nat->Prop} {e:Event} (h:EvOk F Z e) {b:Touch} (hb:(MemAct.ofEvent e).touch?=some b):∃ ad,AtL b.loc ad/\F ad.block/\(b.write=true->¬ Z ad.block)/\b.kind=.plain:=by
 obtain ⟨loc,wr,sy⟩:=e;rcases h with ⟨a,h1,h2,h3,h4⟩ | h1
 ·simp only at h1 h2 h4;subst h2;cases h1 with
  | cell a =>
   simp only [MemAct.ofEvent,MemAct.touch?] at hb;cases hb;exact ⟨a,.cell a,h3,h4,rfl⟩
  | obj r =>
   have hb:some (⟨.obj r,wr,.plain⟩:Touch)=some b:=by cases wr<;>exact hb
   cases hb;exact ⟨_,.obj r,h3,h4,rfl⟩
 grind [MemAct.ofEvent,MemAct.touch?]
theorem Qfj {F Z:Nat->Prop} {e:Event} (h:EvOk F Z e):e.loc≠.mark .disable/\e.loc≠.mark .enable:=by
 rcases h with ⟨a,h1,_⟩ | h1
 ·generalize e.loc=l at h1;cases h1<;>exact ⟨(fun h=>by cases h),(fun h=>by cases h)⟩
 grind
theorem Qrc {F Z:Nat->Prop} {e:Event} (h:EvOk F Z e) {B:Nat} (hB:∀ b,F b->b < B):(MemAct.ofEvent e).low B:=by
 obtain ⟨loc,wr,sy⟩:=e;rcases h with ⟨a,h1,h2,h3,h4⟩ | h1
 ·simp only at h1 h2;subst h2;cases h1 with
  | cell a =>
   grind [MemAct.ofEvent,MemAct.low,Loc.low]
  | obj r=>cases wr<;>exact hB _ h3
 grind [MemAct.ofEvent,MemAct.low]
end Go.Gw

end
section
set_option linter.unusedVariables false
namespace Go.Gw
open Go Go.Conc

def Qbm (vs:Nat->Option View) (i:Nat) (x:Option View) (W':World):Nat->Option View:=fun j=>if j=i then x else (vs j).map (Qaa W')
theorem Qac {vs:Nat->Option View} {i:Nat} {x:Option View} {W':World}:Qbm vs i x W' i=x:=by simp [Qbm]
theorem JK {vs:Nat->Option View} {i j:Nat} {x:Option View} {W':World} (h:j≠i):Qbm vs i x W' j=(vs j).map (Qaa W'):=by simp [Qbm,h]
theorem QTl {vs:Nat->Option View} {i j:Nat} {x:View} {W':World} {y:View} (hy:vs j=some y):(Qbm vs i (some x) W' j).isSome=true:=by
 grind [JK,Qac]
theorem Qtt {vs:Nat->Option View} {i j:Nat} {x:View} {W':World} (hy:(vs j).isSome=true):(Qbm vs i (some x) W' j).isSome=true:=by
 cases hv:vs j with
 | none=>simp_all
 | some y=>exact QTl hv

theorem g?_cases {t u:Trace} {e g:Nat} (h:(t++u).g? e=some g):(e < t.size/\t.g? e=some g)\/(t.size<=e/\∃ op∈u,op.g=g/\(t++u)[e]?=some op):=by
 grind [Trace.g?,getElem?_append_cases,Option.map_eq_some_iff]
theorem Qcq {t u:Trace} {e:Nat} {a:Touch} (h:touchAt (t++u) e=some a):(e < t.size/\touchAt t e=some a)\/(t.size<=e/\∃ op∈u,op.act.touch?=some a/\(t++u)[e]?=some op):=by
 obtain ⟨x,hx,hxa⟩:=touch_of h
 grind [touchAt_of,getElem?_append_cases]
theorem lt_of_g? {t:Trace} {j g:Nat} (h:t.g? j=some g):j < t.size:=by
 grind [lt_size_of_getElem?,Option.map_eq_some_iff,Trace.g?]

section
variable {Sh:Loc->Prop} {c n:Nat} {vs:Nat->Option View} {W W':World} {t:Trace} {i:Nat} {x:View}
end
end Go.Gw

end
section
set_option linter.unusedVariables false
namespace Go.Gw
open Go Go.Conc
section
variable {Sh:Loc->Prop} {c n:Nat} {vs:Nat->Option View} {W W':World} {t:Trace} {i:Nat} {x:View}

def Qcz (vs:Nat->Option View) (d:Nat):Nat->Option View:=fun j=>(vs j).map fun x=>{ x with w:=x.w.at d }
theorem Agr.at {F Z:Nat->Prop} {w W:World} (h:Agr F Z w W) (d:Nat):Agr F Z (w.at d) (W.at d):=⟨h.tape,rfl,h.os,h.output,h.size,h.own,h.shr,h.hid,h.zf⟩
theorem J0 (w:World) (d:Nat):Rel w (w.at d):=⟨rfl,rfl,rfl,Ef _,fun _ _=>rfl,fun b h1 h2=>absurd h2 (Nat.not_lt.2 h1)⟩
theorem Qkx {d j:Nat}:(Qcz vs d j).isSome=(vs j).isSome:=by simp [Qcz]
/-! ### A new goroutine -/
open Classical in
noncomputable def frz (C:Nat->Prop) (w:World):World:={ w with heap:=w.heap.mapIdx fun b o=>if C b then (match o with | .cells cs e _=>.cells cs e (0,cs.size) | o=>o) else o }
open Classical in
noncomputable def hid (C:Nat->Prop) (w:World):World:={ w with heap:=w.heap.mapIdx fun b o=>if C b then o else YM }
open Classical in
theorem Qbh {C:Nat->Prop} {w:World} {b:Nat}:(frz C w).heap[b]?=(w.heap[b]?).map fun o=>if C b then (match o with | .cells cs e _=>.cells cs e (0,cs.size) | o=>o) else o:=by
 simp [frz,Ec]
open Classical in
theorem Qlj {C:Nat->Prop} {w:World} {b:Nat}:(hid C w).heap[b]?=(w.heap[b]?).map fun o=>if C b then o else YM:=by
 simp [hid,Ec]
theorem Qlh {C:Nat->Prop} {w:World}:(frz C w).heap.size=w.heap.size:=by simp [frz]
theorem Qrl {C:Nat->Prop} {w:World}:(hid C w).heap.size=w.heap.size:=by simp [hid]
def Rows (C:Nat->Prop) (w:World):Prop:=∀ b,C b->∃ cs e fz,w.heap[b]?=some (.cells cs e fz)
theorem Agr.frz {F Z C:Nat->Prop} {w W:World} (h:Agr F Z w W) (hC:∀ b,C b->F b) (hR:Rows C w):Agr F (fun b=>Z b\/C b) (Gw.frz C w) W:=by
 refine ⟨h.tape,h.drawn,h.os,h.output,by rw [Qlh];exact h.size,fun b hF hz=>?_,fun b hF hz=>?_,fun b hF hlt=>?_,fun b hz=>hz.elim (h.zf b) (hC b)⟩
 ·have hCb:¬ C b:=fun e=>hz (.inr e)
  rw [Qbh,h.own b hF (fun e=>hz (.inl e))];simp [hCb]
 ·by_cases hCb:C b
  ·obtain ⟨cs,e,fz,h1⟩:=hR b hCb;by_cases hZ:Z b
   ·obtain ⟨cs',e',fz',h2,h3⟩:=h.shr b hF hZ
    grind [Qbh]
   ·exact ⟨cs,e,fz,by grind [Qbh],by rw [h.own b hF hZ];exact h1⟩
  ·have hZ:Z b:=hz.resolve_right hCb;obtain ⟨cs',e',fz',h2,h3⟩:=h.shr b hF hZ
   grind [Qbh]
 ·rw [Qlh] at hlt;have hCb:¬ C b:=fun e=>hF (hC b e)
  rw [Qbh,h.hid b hF hlt];simp [hCb]
theorem Agr.hide {F Z C:Nat->Prop} {w W:World} (h:Agr F Z w W) (hC:∀ b,C b↔Z b):Agr C C (Gw.hid C w) W:=by
 refine ⟨h.tape,h.drawn,h.os,h.output,by rw [Qrl];exact h.size,fun b hF hz=>absurd hF hz,fun b hF _=>?_,fun b hF hlt=>?_,fun b hz=>hz⟩
 ·have hZ:=(hC b).1 hF;obtain ⟨cs',e',fz',h2,h3⟩:=h.shr b (h.zf b hZ) hZ
  grind [Qlj]
 grind [Qrl,Qlj,Ea]
theorem NoView.frz {C:Nat->Prop} {w:World} (h:NoView w):NoView (Gw.frz C w):=fun b a u e=>by
 rw [Qbh] at e;cases hb:w.heap[b]? with
 | none=>simp_all
 | some o =>
  rw [hb] at e;simp only [Option.map_some,Option.some.injEq] at e;split at e
  ·cases o<;>simp at e
   rename_i x' u';exact h b x' u' hb
  ·subst e;exact h b a u hb
theorem NoView.hide {C:Nat->Prop} {w:World} (h:NoView w):NoView (Gw.hid C w):=fun b a u e=>by
 rw [Qlj] at e;cases hb:w.heap[b]? with
 | none=>simp_all
 | some o =>
  rw [hb] at e;simp only [Option.map_some,Option.some.injEq] at e;split at e
  ·subst e;exact h b a u hb
  ·cases e

/-! ### Operations that touch nothing -/
def Qgx (y:MemOp):Prop:=y.act.touch?=none/\y.act≠.mark .disable/\y.act≠.mark .enable
theorem Qqr {y:MemOp} (hy:Qgx y) (g:Nat):Deaf (t++#[y]) g=Deaf t g:=by
 rw [Deaf_push];obtain ⟨h,fn,pos,act⟩:=y;unfold deafStep;cases act with
 | mark m=>cases m<;>first | rfl | exact absurd rfl hy.2.1 | exact absurd rfl hy.2.2
 | _=>rfl
theorem QEr {y:MemOp} (hy:Qgx y) {e:Nat} {a:Touch} (ha:touchAt (t++#[y]) e=some a):touchAt t e=some a:=by
 rcases Qcq ha with ⟨_,h1⟩ | ⟨_,op,h1,h2,_⟩
 ·exact h1
 ·have:op=y:=by grind
  subst this;rw [hy.1] at h2;cases h2
end
end Go.Gw

end
section
set_option linter.unusedVariables false
namespace Go.Gw
open Go Go.Conc
section
variable {Sh:Loc->Prop} {c n:Nat} {vs:Nat->Option View} {W W':World} {t:Trace} {i:Nat} {x:View}

theorem Qwp {t1:Trace} {y:MemOp} (u:Trace):(t1++#[y]++u)[t1.size]?=some y:=by
 grind
theorem Qdt {t1:Trace} {y:MemOp}:(t1++#[y])[t1.size]?=some y:=by
 simp
theorem Qli {t1:Trace} {y:MemOp} (u:Trace) (hd:Deaf t1 y.g=0):(t1++#[y]++u).heard t1.size:=by
 refine ⟨y.g,by rw [Trace.g?,Qwp];rfl,?_⟩;rw [Array.append_assoc,deaf_old (Ef _)];exact hd

theorem Qks (k g:Nat) (fn:FuncId) (pos:String):Qgx { g:=g,fn:=fn,pos:=pos,act:=.go k }:=⟨rfl,by simp,by simp⟩
theorem Qqn (g:Nat) (fn:FuncId) (pos:String):Qgx { g:=g,fn:=fn,pos:=pos,act:=.start }:=⟨rfl,by simp,by simp⟩
theorem QMl {fn fn':FuncId} {pos pos':String} (h0:Deaf t 0=0) (hn:Deaf t n=0) {e:Nat} (hk:Knows t 0 e):Knows (t++#[{ g:=0,fn:=fn,pos:=pos,act:=.go n }]++#[{ g:=n,fn:=fn',pos:=pos',act:=.start }]) n e:=by
 obtain ⟨q,z,h1,h2,h3⟩:=hk;have hq:=lt_size_of_getElem? h1;generalize hy1:({ g:=0,fn:=fn,pos:=pos,act:=.go n }:MemOp)=y1;generalize hy2:({ g:=n,fn:=fn',pos:=pos',act:=.start }:MemOp)=y2;have c1:Qgx y1:=by grind [Qks]
 have e1:(t++#[y1]++#[y2])[t.size]?=some y1:=Qwp _;have e2:(t++#[y1]++#[y2])[(t++#[y1]).size]?=some y2:=Qdt;have eq:(t++#[y1]++#[y2])[q]?=some z:=by grind
 have g1:HappensBefore (t++#[y1]++#[y2]) e t.size:=((h3.app #[y1]).app #[y2]).hb (hb_po hq eq e1 (by grind));refine ⟨_,y2,e2,by grind,.inr (g1.trans (.single (.inr ⟨?_,?_,?_⟩)))⟩
 ·refine .spawn (child:=n) ?_ ?_ ?_
  ·grind [Trace.act?]
  ·grind [Trace.act?]
  grind [Trace.g?]
 ·grind [Qli]
 ·have:=Qli (t1:=t++#[y1]) (y:=y2) #[] (by grind [Qqr]);trivial

end
end Go.Gw

end
section
set_option linter.unusedVariables false
namespace Go.Gw
open Go Go.Conc
section
variable {Sh:Loc->Prop} {c n:Nat} {vs:Nat->Option View} {W W':World} {t:Trace} {i:Nat} {x y:View}

structure More (w w':World):Prop where
 os:w'.os=w.os
 tape:w'.tape=w.tape
 output:w'.output=w.output
 size:w'.heap.size=w.heap.size
 block:∀ b,b < w.heap.size->w.heap[b]?≠some YM->w'.heap[b]?=w.heap[b]?
def Shows (w w':World):Prop:=∀ (b:Nat) (cs:Array Value) (e:TypeId) (fz:Nat×Nat),w.heap[b]?=some (.cells cs e fz)->w'.heap[b]?=some (.cells cs e fz)
theorem More.shows {w w':World} (h:More w w'):Shows w w':=fun b cs e fz hb=>by
 rw [h.block b (Eb.1 hb).1 (by grind [YM])];exact hb

open Classical in
noncomputable def merge (x y:View):World:={ x.w with heap:=x.w.heap.mapIdx fun b o=>if x.F b then o else if y.F b then (y.w.heap[b]?).getD YM else YM }
open Classical in
theorem Qec {b:Nat}:(merge x y).heap[b]?=(x.w.heap[b]?).map fun o=>if x.F b then o else if y.F b then (y.w.heap[b]?).getD YM else YM:=by
 simp [merge,Ec]
theorem Qsu:(merge x y).heap.size=x.w.heap.size:=by simp [merge]

theorem QPe (hx:Agr x.F x.Z x.w W):More x.w (merge x y):=by
 refine ⟨rfl,rfl,rfl,Qsu,fun b hb hj=>?_⟩;rw [Qec];by_cases hF:x.F b
 ·simp [hF]
 ·exact absurd (hx.hid b hF hb) hj
theorem QPg (hx:Agr x.F x.Z x.w W) (hy:Agr y.F y.Z y.w W) (hap:Apart x y):Shows y.w (merge x y):=fun b cs e fz hb=>by
 have hlt:=(Eb.1 hb).1;have hyF:y.F b:=by
  refine Classical.byContradiction fun hn=>?_;rw [hy.hid b hn hlt] at hb;cases hb
 have hlt':b < x.w.heap.size:=by rw [<-hx.size,hy.size];exact hlt
 rw [Qec,Ea hlt'];by_cases hF:x.F b
 ·obtain ⟨hxz,hyz⟩:=hap b hF hyF;obtain ⟨cs1,e1,fz1,h1,h2⟩:=hx.shr b hF hxz;obtain ⟨cs2,e2,fz2,h3,h4⟩:=hy.shr b hyF hyz;simp_all
 simp_all
theorem QPd (hx:Agr x.F x.Z x.w W) (hy:Agr y.F y.Z y.w W) (hap:Apart x y) (hz:∀ b,y.Z b->x.F b) (hb:∀ b,y.F b->b < W.heap.size):Agr (fun b=>x.F b\/y.F b) x.Z (merge x y) W:=by
 refine ⟨hx.tape,hx.drawn,hx.os,hx.output,by rw [Qsu];exact hx.size,fun b hF hZ=>?_,fun b hF hZ=>?_,fun b hF hlt=>?_,fun b hZ=>.inl (hx.zf b hZ)⟩
 ·rw [Qec];by_cases hxF:x.F b
  ·rw [hx.own b hxF hZ];simp [hxF]
  ·have hyF:=hF.resolve_left hxF;have hlt:=hb b hyF;have hlt':b < x.w.heap.size:=by rw [<-hx.size];exact hlt
   have hyl:b < y.w.heap.size:=by rw [<-hy.size];exact hlt
   rw [hy.own b hyF (fun e=>hxF (hz b e)),Ea hlt'];simp_all
 ·have hxF:=hx.zf b hZ;obtain ⟨cs1,e1,fz1,h1,h2⟩:=hx.shr b hxF hZ
  grind [Qec]
 grind [Qsu,Qec,Ea]
end
end Go.Gw

end
section
set_option linter.unusedVariables false
namespace Go.Gw
open Go Go.Conc

def WT (P:Program) (Z:Nat->Prop) (St:Nat->Goroutine->World->Prop):Tr->Goroutine->World->Prop
 | .leaf,_,_=>False
 | .mk f,g,w=>g.status=.running/\∀ w1,Rel w w1->(∃ k,St k g w1/\f w1=nt k)\/∃ g' w',JV P false Z g w1 g' w'/\WT P Z St (f w1) g' w'
theorem WT.rely {P:Program} {Z:Nat->Prop} {St:Nat->Goroutine->World->Prop} {τ:Tr} {g:Goroutine} {w w1:World} (h:WT P Z St τ g w) (r:Rel w w1):WT P Z St τ g w1:=by
 cases τ with
 | leaf=>exact h
 | mk f=>exact ⟨h.1,fun w2 r2=>h.2 w2 (r.trans r2)⟩
theorem WT.running {P:Program} {Z:Nat->Prop} {St:Nat->Goroutine->World->Prop} {τ:Tr} {g:Goroutine} {w:World} (h:WT P Z St τ g w):g.status=.running:=by
 cases τ with
 | leaf=>exact h.elim
 | mk f=>exact h.1
def Jw (P:Program) (Z:Nat->Prop):Jd P:=⟨false,Z,fun _ _ _=>False⟩
theorem WT.of {P:Program} {Z:Nat->Prop} {St:Nat->Goroutine->World->Prop} (hSt:∀ k g w,St k g w->g.status=.running) {g:Goroutine} {w:World} (h:Wlk (Jw P Z) (fun g w=>∃ k,St k g w) g w):∃ τ,WT P Z St τ g w:=by
 induction h with
 | @stop g w h =>
  have key:∀ w1:World,∃ k,Rel w w1->St k g w1:=fun w1=>by
   rcases Classical.em (Rel w w1) with hr | hr
   ·simp_all
   simp_all
  refine ⟨.mk fun w1=>nt (Classical.choose (key w1)),?_,fun w1 r=>.inl ⟨_,Classical.choose_spec (key w1) r,rfl⟩⟩;obtain ⟨k,hk⟩:=h w (Ed w)
  grind
 | @step g w nx hs h1 h2 ih =>
  have key:∀ w1:World,∃ τ,Rel w w1->WT P Z St τ (nx w1).1 (nx w1).2:=fun w1=>by
   rcases Classical.em (Rel w w1) with hr | hr
   ·simp_all
   ·exact ⟨.leaf,fun hh=>absurd hh hr⟩
  exact ⟨.mk fun w1=>Classical.choose (key w1),hs,fun w1 r=>.inr ⟨_,_,h1 w1 r,Classical.choose_spec (key w1) r⟩⟩
 | phase S hs h1 h2 ih=>exact (h1 _ (Ed _)).elim

end Go.Gw

end
section
set_option linter.unusedVariables false
namespace Go.Gw
open Go Go.Conc

section
variable {P:Program} {Sh:Loc->Prop} {c:Nat} {Fs:Nat->Prop} {Ws:World} {mp:Bool} {Z:Nat->Prop} {orig:Nat->Option Obj} {O:List (Value->World->Prop)} {g:Goroutine} {w:World}
variable {vs:Nat->Option View} {ph:Nat->Value->World->Prop} {A:List Nat} {τ:List Tr} {gs:Array Goroutine} {W:World} {t:Trace}

theorem QSo (i:Nat) (fn:FuncId) (pos:String):MemOp.ofEvents i fn pos #[]=#[]:=rfl

end
end Go.Gw

end
section
set_option linter.unusedVariables false
namespace Go.Gw
open Go Go.Conc

structure MI (P:Program) (Sh:Loc->Prop) (F:Nat->Prop) (w:World) (gs:Array Goroutine) (W:World) (t:Trace) (q:Nat->Nat):Prop where
 agr:Agr F (fun _=>False) w W
 nov:NoView w
 bnd:∀ b,F b->b < W.heap.size
 shun:∀ (l:Loc) (ad:Addr),AtL l ad->F ad.block->¬ Sh l
 shlt:∀ (l:Loc) (ad:Addr),AtL l ad->Sh l->ad.block < W.heap.size
 past:Past Sh W.heap.size t
 lv:Leavers P t gs q
structure Went (F:Nat->Prop) (W:World) (F':Nat->Prop) (W':World):Prop where
 more:∀ b,F b->F' b
 new:∀ b,F' b->F b\/W.heap.size<=b
 keep:∀ b,b < W.heap.size->¬ F b->W'.heap[b]?=W.heap[b]?
 size:W.heap.size<=W'.heap.size
 same:W'.tape=W.tape/\W'.os=W.os/\W'.output=W.output

def Reach (P:Program) (Q:Array Goroutine->World->Trace->Prop) (gs:Array Goroutine) (W:World) (sl:Option (Nat×Nat)) (t:Trace):Prop :=
 ∃ N gs' W' sl' t',runNT P N (crowd gs W sl) t=(.next (crowd gs' W' sl'),t')/\Q gs' W' t'
theorem Reach.here {P:Program} {Q:Array Goroutine->World->Trace->Prop} {gs:Array Goroutine} {W:World} {sl:Option (Nat×Nat)} {t:Trace} (h:Q gs W t):Reach P Q gs W sl t:=⟨0,gs,W,sl,t,rfl,h⟩
theorem Reach.step {P:Program} {Q:Array Goroutine->World->Trace->Prop} {gs gs1:Array Goroutine} {W W1:World} {sl sl1:Option (Nat×Nat)} {t ops:Trace} (h:stepT P (crowd gs W sl)=(.next (crowd gs1 W1 sl1),ops)) (k:Reach P Q gs1 W1 sl1 (t++ops)):Reach P Q gs W sl t:=by
 obtain ⟨N,gs',W',sl',t',h1,h2⟩:=k;exact ⟨N+1,gs',W',sl',t',by grind [runNT],h2⟩

open Classical in
noncomputable def thaw (Z:Nat->Prop) (orig:Nat->Option Obj) (w:World):World:={ w with heap:=w.heap.mapIdx fun b o=>if Z b then (orig b).getD YM else o }
open Classical in
theorem Qgn {Z:Nat->Prop} {orig:Nat->Option Obj} {w:World} {b:Nat}:(thaw Z orig w).heap[b]?=(w.heap[b]?).map fun o=>if Z b then (orig b).getD YM else o:=by
 simp [thaw,Ec]
theorem Qvs {Z:Nat->Prop} {orig:Nat->Option Obj} {w:World}:(thaw Z orig w).heap.size=w.heap.size:=by simp [thaw]
open Classical in
noncomputable def Qbl (Z C:Nat->Prop) (w:World) (orig:Nat->Option Obj):Nat->Option Obj:=fun b=>if Z b then orig b else w.heap[b]?

def Fin0 (P:Program) (Sh:Loc->Prop) (S:Goroutine->World->Prop) (Fs:Nat->Prop) (Ws:World) (gs:Array Goroutine) (W:World) (t:Trace):Prop :=
 ∃ g F w q,gs[0]?=some g/\S g w/\MI P Sh F w gs W t q/\Went Fs Ws F W

section
variable {P:Program} {Sh:Loc->Prop} {c:Nat} {Fs:Nat->Prop} {Ws:World} {mp:Bool} {Z:Nat->Prop} {orig:Nat->Option Obj} {O:List (Value->World->Prop)} {g:Goroutine} {w:World}
variable {vs:Nat->Option View} {ph:Nat->Value->World->Prop} {A:List Nat} {τ:List Tr} {gs:Array Goroutine} {W:World} {t:Trace} {S:Goroutine->World->Prop}

theorem QLv {e g:Nat} (h:Knows t 0 e) (hg:t.g? e=some g) (hne:g≠0):∃ j,t.g? j=some 0/\HappensBefore t e j:=by
 obtain ⟨q,z,h1,h2,h3⟩:=h;rcases h3 with rfl | h3
 ·grind [absurd,Trace.g?]
 grind [Trace.g?]

end
end Go.Gw

end
section
set_option linter.unusedVariables false
namespace Go.Gw
open Go Go.Conc
section
variable {P:Program} {Sh:Loc->Prop} {c:Nat} {Fs:Nat->Prop} {Ws:World} {mp:Bool} {Z:Nat->Prop} {orig:Nat->Option Obj} {O:List (Value->World->Prop)} {g:Goroutine} {w:World}
variable {vs:Nat->Option View} {ph:Nat->Value->World->Prop} {A:List Nat} {τ:List Tr} {gs:Array Goroutine} {W:World} {t:Trace} {S:Goroutine->World->Prop}

end
end Go.Gw

end
section
set_option linter.unusedVariables false
namespace Go.Gw
open Go Go.Conc
section
variable {P:Program} {Sh:Loc->Prop} {c:Nat} {Fs:Nat->Prop} {Ws:World} {S:Goroutine->World->Prop}

end
end Go.Gw

end
section
set_option linter.unusedVariables false
namespace Go.Gw
open Go Go.Conc
open Go.ConcN (sumTo upd sumTo_upd upd_ne upd_same)
section
variable {P:Program} {Sh:Loc->Prop} {F F':Nat->Prop} {w w':World} {gs:Array Goroutine} {W W' W2:World} {t:Trace} {q:Nat->Nat} {g:Goroutine}

theorem Went.refl (F:Nat->Prop) (W:World):Went F W F W:=⟨fun _ h=>h,fun _ h=>.inl h,fun _ _ _=>rfl,Ef _,rfl,rfl,rfl⟩
theorem Went.at (F:Nat->Prop) (W:World) (d:Nat):Went F W F (W.at d):=⟨fun _ h=>h,fun _ h=>.inl h,fun _ _ _=>rfl,Ef _,rfl,rfl,rfl⟩
theorem Went.trans {F2:Nat->Prop} (h:Went F W F' W') (k:Went F' W' F2 W2):Went F W F2 W2 :=
 ⟨fun b hb=>k.more b (h.more b hb),fun b hb=>(k.new b hb).elim (h.new b) fun h1=>.inr (Nat.le_trans h.size h1),fun b hb hn=>by
  rw [k.keep b (Eg hb h.size) fun hF=>(h.new b hF).elim hn (fun h1=>by omega)];exact h.keep b hb hn,Nat.le_trans h.size k.size,k.same.1.trans h.same.1,k.same.2.1.trans h.same.2.1,k.same.2.2.trans h.same.2.2⟩

theorem MI.at (h:MI P Sh F w gs W t q) (d:Nat):MI P Sh F (w.at d) gs (W.at d) t q:=⟨h.agr.at d,h.nov.rel (J0 _ d),h.bnd,h.shun,h.shlt,h.past,h.lv⟩
theorem MI.awake (h:MI P Sh F w gs W t q) (h0:gs[0]?=some g) (hr:g.status=.running):∀ x∈gs,Conc.awake x:=fun x hx=>by
 obtain ⟨i,hi,rfl⟩:=Array.mem_iff_getElem.1 hx;rcases Nat.eq_zero_or_pos i with rfl | hpos
 ·grind [awake_of,Ea]
 ·exact awake_of ((h.lv.old i _ hpos (Ea hi)).status.elim .inl fun x=>.inr (.inr x))
theorem MI.woken (h:MI P Sh F w gs W t q) (h0:gs[0]?=some g) (hr:g.status=.running) (a b:Goroutine) (w2:World):gs.map (Conc.woken P a b w2)=gs:=by
 apply Array.ext_getElem?;intro i;rw [Array.getElem?_map];cases hi:gs[i]? with
 | none=>rfl
 | some o =>
  simp only [Option.map_some,Option.some.injEq];rcases Nat.eq_zero_or_pos i with rfl | hpos
  ·grind [woken_run]
  ·exact woken_quitsD (h.lv.old i o hpos hi)
theorem MI.slip (h:MI P Sh F w gs W t q) (h0:gs[0]?=some g) (hr:g.status=.running) {i:Nat} {gi:Goroutine} (hi:gs[i]?=some gi) (hi0:i≠0) (hri:gi.status=.running) (sl:Option (Nat×Nat)) :
  ∃ (ops:Trace) (gs':Array Goroutine) (q':Nat->Nat),runT P (crowd gs W sl) i=(.next (crowd gs' W sl),ops)/\gs'[0]?=some g/\sumTo gs'.size q' < sumTo gs.size q/\MI P Sh F w gs' W (t++ops) q':=by
 have hpos:0 < i:=by omega
 have hq:=h.lv.old i gi hpos hi;have hib:(i == 0)=false:=by simp [hi0]
 have hlt:i < gs.size:=(Eb.1 hi).1;cases hqi:q i with
 | zero=>rw [hqi] at hq;rw [hq.1] at hri;cases hri
 | succ k =>
  rw [hqi] at hq;rcases hq with ⟨hf,_⟩ | ⟨_,g',es,hm,hstp,hq'⟩
  ·simp_all
  have hrunT:=runT_crowd_go (P:=P) (sl:=sl) (i:=i) hi (by rw [hib];exact hstp W);rw [h.woken h0 hr] at hrunT;have hsum:sumTo gs.size (upd q i k)+(k+1)=sumTo gs.size q+k:=by
   have:=sumTo_upd q k id hlt;simp_all
  refine ⟨_,_,upd q i k,hrunT,by simp_all,by grind,⟨h.agr,h.nov,h.bnd,h.shun,h.shlt,h.past.mute hi0 hm,⟨fun j x hj hx=>?_,fun j hj=>?_⟩⟩⟩
  ·by_cases hji:i=j
   ·grind [upd_same,Deaf_own,Option.some.inj,Array.getElem?_setIfInBounds_self_of_lt]
   ·rw [Ee hji] at hx;rw [upd_ne q k (Ne.symm hji),Deaf_other t hji _ (fun op hop=>by grind [Conc.mem_ofEvents])];exact h.lv.old j x hj hx
  ·rw [Deaf_other t (g':=i) (by grind) _ (fun op hop=>by grind [Conc.mem_ofEvents])];exact h.lv.above j (by grind)

theorem MI.own (h:MI P Sh F w gs W t q) (h0:gs[0]?=some g) (hr:g.status=.running) {g':Goroutine} (hv:JV P true (fun _=>False) g w g' w') (sl:Option (Nat×Nat)) :
  ∃ (ops:Trace) (gs':Array Goroutine) (W':World) (F':Nat->Prop),runT P (crowd gs W sl) 0=(.next (crowd gs' W' sl),ops)/\gs'[0]?=some g'/\MI P Sh F' w' gs' W' (t++ops) q/\Went F W F' W':=by
 obtain ⟨hnv,hstep⟩:=hv h.nov;obtain ⟨F',W',es,hgo,hat,hes⟩:=hstep F W h.agr;have hlt:0 < gs.size:=(Eb.1 h0).1;have hrun:=runT_crowd_go (P:=P) (sl:=sl) (i:=0) h0 (show stepG P (0 == 0) g W=_ from hgo);rw [h.woken h0 hr] at hrun;have hg:∀ op∈MemOp.ofEvents 0 g.frame.fn g.frame.place es,op.g=0:=fun op hop=>by grind [Conc.mem_ofEvents]
 have hb:∀ b,F' b->b < W'.heap.size:=fun b hb=>(hat.new b hb).elim (fun h1=>Eg (h.bnd b h1) hat.size) fun h1=>h1.2
 have hsh:∀ (l:Loc) (ad:Addr),AtL l ad->F' ad.block->¬ Sh l:=fun l ad hl had hs=>(hat.new _ had).elim (fun h1=>h.shun l ad hl h1 hs) fun h1=>by
  have:=h.shlt l ad hl hs;omega
 have hev:∀ e∈es,EvL Sh W'.heap.size e:=fun e he=>by
  refine ⟨fun x hx hs=>?_,(Qfj (hes e he)).1,(Qfj (hes e he)).2,Qrc (hes e he) hb⟩
  grind [absurd,Qrd]
 refine ⟨_,_,W',F',hrun,by simp [hlt],⟨hat.agr,hnv,hb,hsh,fun l ad hl hs=>Eg (h.shlt l ad hl hs) hat.size,(h.past.mono hat.size).own hev,⟨fun j x hj hx=>?_,fun j hj=>?_⟩⟩,⟨hat.more,fun b hb=>(hat.new b hb).imp id fun h1=>h1.1,fun b hb hn=>hat.keep b hb (.inl hn),hat.size,hat.same⟩⟩
 ·have hj0:0≠j:=by omega
  rw [Ee hj0] at hx;rw [Deaf_other t hj0 _ hg];exact h.lv.old j x hj hx
 ·rw [Deaf_other t (g':=0) (by grind) _ hg];exact h.lv.above j (by grind)
end
end Go.Gw

end
section
set_option linter.unusedVariables false
namespace Go.Gw
open Go Go.Conc
open Go.ConcN (sumTo upd sumTo_upd upd_ne upd_same)

def Jm (P:Program):Jd P:=⟨true,fun _=>False,fun g w S=>∀ Sh F gs W sl t q,MI P Sh F w gs W t q->gs[0]?=some g->Reach P (fun gs' W' t'=>∃ Sh',Fin0 P Sh' S F W gs' W' t') gs W sl t⟩

section
variable {P:Program} {Sh:Loc->Prop} {F F':Nat->Prop} {w w':World} {gs:Array Goroutine} {W W' W2:World} {t:Trace} {q:Nat->Nat} {g:Goroutine} {S:Goroutine->World->Prop}

theorem Qud:∀ (N M:Nat) (m m':Machine) (t t':Trace),runNT P N m t=(.next m',t')->runNT P (N+M) m t=runNT P M m' t'
 | 0,M,m,m',t,t',h=>by simp_all [Nat.zero_add,runNT]
 | N+1,M,m,m',t,t',h=>by
  rw [Nat.succ_add];simp only [runNT] at h ⊢;cases hs:stepT P m with
  | mk s ops =>
   rw [hs] at h;cases s with
   | next m1=>exact Qud N M m1 m' _ t' h
   | ended o w=>simp at h
theorem Reach.bind {Q Q':Array Goroutine->World->Trace->Prop} {sl:Option (Nat×Nat)} (h:Reach P Q gs W sl t) (k:∀ gs' W' sl' t',Q gs' W' t'->Reach P Q' gs' W' sl' t'):Reach P Q' gs W sl t:=by
 obtain ⟨N,gs',W',sl',t',h1,h2⟩:=h;obtain ⟨M,gs2,W2,sl2,t2,h3,h4⟩:=k gs' W' sl' t' h2;exact ⟨N+M,gs2,W2,sl2,t2,by grind [Qud],h4⟩
theorem Fin0.back {Fs F2:Nat->Prop} {Ws:World} {gs':Array Goroutine} {t':Trace} (h:Fin0 P Sh S F2 W2 gs' W' t') (k:Went Fs Ws F2 W2):Fin0 P Sh S Fs Ws gs' W' t':=by
 obtain ⟨g,F,w,q,h1,h2,h3,h4⟩:=h;exact ⟨g,F,w,q,h1,h2,h3,k.trans h4⟩
theorem Reach.mono {Q Q':Array Goroutine->World->Trace->Prop} {sl:Option (Nat×Nat)} (h:Reach P Q gs W sl t) (k:∀ gs' W' t',Q gs' W' t'->Q' gs' W' t'):Reach P Q' gs W sl t:=by
 obtain ⟨N,gs',W',sl',t',h1,h2⟩:=h;exact ⟨N,gs',W',sl',t',h1,k _ _ _ h2⟩

theorem QPc (h:Wlk (Jm P) S g w):∀ w1,Rel w w1->∀ Sh F gs W sl t q,MI P Sh F w1 gs W t q->gs[0]?=some g->Reach P (fun gs' W' t'=>∃ Sh',Fin0 P Sh' S F W gs' W' t') gs W sl t:=by
 induction h with
 | @stop g w hS =>
  intro w1 hr Sh F gs W sl t q h h0;exact Reach.here ⟨Sh,g,F,w1,q,h0,hS w1 hr,h,Went.refl _ _⟩
 | @step g w nx hrun hv hn ih =>
  intro w1 hr Sh F gs W sl t q h h0;have key:∀ N w1,Rel w w1->∀ gs W sl t q,sumTo gs.size q<=N->MI P Sh F w1 gs W t q->gs[0]?=some g->Reach P (fun gs' W' t'=>∃ Sh',Fin0 P Sh' S F W gs' W' t') gs W sl t:=by
   intro N
   induction N with
   | zero =>
    intro w1 hr gs W sl t q hN h h0;obtain ⟨i,gi,d,sl',hi,hri,hst⟩:=crowd_pick (P:=P) (w:=W) (sl:=sl) (h.awake h0 hrun) ⟨0,g,h0,hrun⟩;by_cases hi0:i=0
    ·subst hi0;have hr2:=hr.trans (J0 w1 d);obtain ⟨ops,gs',W',F',h1,h2,h3,h4⟩:=(h.at d).own h0 hrun (hv _ hr2) sl';refine Reach.step (hst.trans h1) ((ih _ hr2 _ (Ed _) Sh F' gs' W' sl' _ q h3 h2).mono fun gs2 W2 t2 ⟨Sh',h5⟩=>⟨Sh',h5.back ((Went.at F W d).trans h4)⟩)
    ·obtain ⟨ops,gs',q',h1,h2,h3,h4⟩:=(h.at d).slip h0 hrun hi hi0 hri sl';omega
   | succ N ihN =>
    intro w1 hr gs W sl t q hN h h0;obtain ⟨i,gi,d,sl',hi,hri,hst⟩:=crowd_pick (P:=P) (w:=W) (sl:=sl) (h.awake h0 hrun) ⟨0,g,h0,hrun⟩;have hr2:=hr.trans (J0 w1 d);by_cases hi0:i=0
    ·subst hi0;obtain ⟨ops,gs',W',F',h1,h2,h3,h4⟩:=(h.at d).own h0 hrun (hv _ hr2) sl';refine Reach.step (hst.trans h1) ((ih _ hr2 _ (Ed _) Sh F' gs' W' sl' _ q h3 h2).mono fun gs2 W2 t2 ⟨Sh',h5⟩=>⟨Sh',h5.back ((Went.at F W d).trans h4)⟩)
    ·obtain ⟨ops,gs',q',h1,h2,h3,h4⟩:=(h.at d).slip h0 hrun hi hi0 hri sl';exact Reach.step (hst.trans h1) ((ihN _ hr2 gs' (W.at d) sl' _ q' (by omega) h4 h2).mono fun gs2 W2 t2 ⟨Sh',h5⟩=>⟨Sh',h5.back (Went.at F W d)⟩)
  exact key _ w1 hr gs W sl t q (Ef _) h h0
 | @phase g w S' hrun hp hn ih =>
  intro w1 hr Sh F gs W sl t q h h0;refine (hp w1 hr Sh F gs W sl t q h h0).bind fun gs' W' sl' t' ⟨Sh',g',F',w',q',h1,h2,h3,h4⟩=>?_;exact (ih g' w' h2 w' (Ed _) Sh' F' gs' W' sl' t' q' h3 h1).mono fun gs2 W2 t2 ⟨Sh2,h5⟩=>⟨Sh2,h5.back h4⟩

/-! ### The return -/
def Qkj (P:Program) (Post:Value->World->Prop) (g:Goroutine) (w:World):Prop :=
 g.status=.running/\∃ v,Post v w/\∀ F W,NoView w->Agr F (fun _=>False) w W->∃ es,stepG P true g W=.ended (.done v) W es/\∀ e∈es,EvOk F (fun _=>False) e
theorem QAh {Post:Value->World->Prop} {sl:Option (Nat×Nat)} (h:MI P Sh F w gs W t q) (h0:gs[0]?=some g) (hE:∀ w1,Rel w w1->Qkj P Post g w1)
    (slip:∀ (i:Nat) (gi:Goroutine) (d:Nat) (sl':Option (Nat×Nat)),gs[i]?=some gi->gi.status=.running->i≠0->∃ (ops:Trace) (gs':Array Goroutine),runT P (crowd gs (W.at d) sl') i=(.next (crowd gs' (W.at d) sl'),ops) /\
      ∃ n last o W' t',runNT P (n+1) (crowd gs' (W.at d) sl') (t++ops)=(.ended o W',t')/\runN P n (crowd gs' (W.at d) sl')=.next last/\step P last=.ended o W'/\Conc.Good P (fun v W'=>∃ F' w',Post v w'/\NoView w'/\Agr F' (fun _=>False) w' W'/\Went F W F' W') last o W' t') :
    ∃ n last o W' t',runNT P (n+1) (crowd gs W sl) t=(.ended o W',t')/\runN P n (crowd gs W sl)=.next last/\step P last=.ended o W'/\Conc.Good P (fun v W'=>∃ F' w',Post v w'/\NoView w'/\Agr F' (fun _=>False) w' W'/\Went F W F' W') last o W' t':=by
  have hrun:=(hE w (Ed w)).1;obtain ⟨i,gi,d,sl',hi,hri,hst⟩:=crowd_pick (P:=P) (w:=W) (sl:=sl) (h.awake h0 hrun) ⟨0,g,h0,hrun⟩;by_cases hi0:i=0
  · subst hi0;obtain ⟨_,v,hpost,hend⟩:=hE (w.at d) (J0 w d);have h':=h.at d;obtain ⟨es,he,hes⟩:=hend F (W.at d) h'.nov h'.agr;have hrunT:=runT_many_ended (P:=P) (sl:=sl') (i:=0) h0 (show stepG P (0 == 0) g (W.at d)=_ from he);have hev:∀ e∈es,EvL Sh (W.at d).heap.size e:=fun e hee=>by
      refine ⟨fun x hx hs=>?_,(Qfj (hes e hee)).1,(Qfj (hes e hee)).2,Qrc (hes e hee) h'.bnd⟩;obtain ⟨ad,h1,h2,_⟩:=Qrd (hes e hee) hx;exact absurd hs (h.shun _ ad h1 h2)
    have hP':=h'.past.own (fn:=g.frame.fn) (pos:=g.frame.place) hev;have hstep:stepT P (crowd gs W sl)=(.ended (.done v) (W.at d),MemOp.ofEvents 0 g.frame.fn g.frame.place es):=hst.trans hrunT;refine ⟨0,crowd gs W sl,.done v,W.at d,_,by grind [runNT],rfl,by simp [step,hstep],v,rfl,⟨F,w.at d,hpost,h'.nov,h'.agr,Went.at F W d⟩,hP'.clean,hP'.over,⟨fun x hx=>?_,rfl⟩,fun j x hx hj=>?_⟩
    · obtain ⟨j,hj⟩:=List.mem_iff_getElem?.1 hx;rw [List.getElem?_drop] at hj;exact ⟨_,(h.lv.old (1+j) x (by omega) (by grind [crowd])).leaves⟩
    · have hq:=h.lv.old j x (by omega) hx;refine ⟨q j,?_⟩;have e:(t++MemOp.ofEvents 0 g.frame.fn g.frame.place es).deaf j (t++MemOp.ofEvents 0 g.frame.fn g.frame.place es).size=Deaf t j :=
        Deaf_other t (g:=j) (g':=0) (by omega) _ (fun op hop=>by grind [Conc.mem_ofEvents])
      rw [e];exact hq.hears _
  · obtain ⟨ops,gs',h1,n,last,o,W',t',k1,k2,k3,k4⟩:=slip i gi d sl' hi hri hi0;have hs:=hst.trans h1;exact ⟨n+1,last,o,W',t',by grind [runNT_succ_next],by grind [runN_succ_next],k3,k4⟩
theorem QPb {Post:Value->World->Prop}:∀ N gs W sl t q,sumTo gs.size q<=N->MI P Sh F w gs W t q->gs[0]?=some g->(∀ w1,Rel w w1->Qkj P Post g w1) ->
  ∃ n last o W' t',runNT P (n+1) (crowd gs W sl) t=(.ended o W',t')/\runN P n (crowd gs W sl)=.next last/\step P last=.ended o W'/\Conc.Good P (fun v W'=>∃ F' w',Post v w'/\NoView w'/\Agr F' (fun _=>False) w' W'/\Went F W F' W') last o W' t':=by
 intro N
 induction N generalizing w with
 | zero =>
  intro gs W sl t q hN h h0 hE;exact QAh (q:=q) h h0 hE (fun i gi d sl' hi hri hi0=>by
   obtain ⟨ops,gs',q',h1,h2,h3,h4⟩:=(h.at d).slip h0 (hE w (Ed w)).1 hi hi0 hri sl';omega)
 | succ N ih =>
  intro gs W sl t q hN h h0 hE;refine QAh (q:=q) h h0 hE (fun i gi d sl' hi hri hi0=>?_);obtain ⟨ops,gs',q',h1,h2,h3,h4⟩:=(h.at d).slip h0 (hE w (Ed w)).1 hi hi0 hri sl';obtain ⟨n,last,o,W',t',k1,k2,k3,k4⟩:=ih gs' (W.at d) sl' (t++ops) q' (by omega) h4 h2 (fun w1 hr=>hE w1 ((J0 w d).trans hr));exact ⟨ops,gs',h1,n,last,o,W',t',k1,k2,k3,k4.mono fun v hp=>by
   obtain ⟨F',w',p1,p2,p3,p4⟩:=hp;exact ⟨F',w',p1,p2,p3,(Went.at F W d).trans p4⟩⟩
end
end Go.Gw

end
section
set_option linter.unusedVariables false
namespace Go.Gw
open Go Go.Conc
open Go.ConcN (sumTo upd sumTo_upd upd_ne upd_same)
section
variable {P:Program} {Sh:Loc->Prop} {F F':Nat->Prop} {w w':World} {gs:Array Goroutine} {W W' W2:World} {t:Trace} {q:Nat->Nat} {g g':Goroutine} {S:Goroutine->World->Prop}

theorem QCg (w:World):Rel w { w with heap:=w.heap.push YM }:=⟨rfl,rfl,rfl,by simp,fun b hb=>by
 grind,fun b h1 h2=>by
 grind⟩

/-! ### Pieces -/
def Jp (P:Program) (Z:Nat->Prop):Jd P:=⟨true,Z,fun _ _ _=>False⟩
end
end Go.Gw

end
