/- Laws of the walk. Condition: each theorem says its own. -/
import Derived.Test.YtbigilldfhjedaaGreatDoorGwLib5
import Derived.Laws.BytesString
import Derived.MapKept
import Derived.Lib.AppendStr
import Derived.Lib.UnsafeStr
import Derived.Lib.MakeNoZero
import Derived.Lib.Builder
import Derived.Laws.Externs
import GoSem.Extern.BytealgIndexByte
import GoSem.Extern.BytealgCount
set_option linter.unusedVariables false
set_option linter.unusedSimpArgs false
set_option linter.unusedSectionVars false
open Nat renaming mul_one→Ea,le_refl→Eb
section
set_option linter.unusedSectionVars false
namespace Go.Gw
open Go
section
variable {P:Program} [JD P]
theorem QXi {T I e:TypeId} {k:IntKind} (hu:P.underlying T=some (.slice e)) (hI:P.underlying I=some (.int k)) (t:TypeId) (v x:Value):Tame P (Builtin.append_ #[T,I] t #[v,x]):=by
 unfold Builtin.append_;dsimp only [List.getElem?_toArray,List.getElem?_cons_zero,List.getElem?_cons_succ];refine .und hu ?_;dsimp only;split
 ·refine .bnd (Jy _) fun size=>.und hI ?_;simp only [if_true,Bool.not_true,Bool.false_eq_true,if_false,true_or,pure_bind]
  repeat' first
   | exact .pure _
   | exact YK _
   | exact QEd _
   | exact Qbn _
   | exact Qcp _
   | exact Qel _
   | exact Qjz _
   | exact Qdk _ _ _
   | exact Qep _
   | exact Qem _ _
   | exact Qeo _ _ _
   | refine Jk ?_ ?_
   | refine .bnd ?_ fun _=>?_
   | split
 ·exact YK _
theorem QUx {w:World} (t u ty e:TypeId) (i:TypeInfo) (z:Value) {k:IntKind} (ht:P.underlying t=some (.slice e)) (hu:P.underlying u=some (.int k)) (hi:P.info? e=some i) (hz:i.zero=some z) (n:Nat) (h0:0 < n) (hn:n<=1048576) (hs:0 < i.size) (h48:n * i.bytes<=281474976710656) :
  (Builtin.append_ #[t,u] ty #[.slice none 0 0,.int .i64 (n:Int)]).run P w =
   .ok (.slice (some ⟨w.heap.size,0,none⟩) n (grownCap w n 0 e)) (w.drew.alloc (.cells (Builtin.zeroCells z.cells n++Builtin.zeroCells z.cells (grownCap w n 0 e - n)) e)):=by
 have hn0:n≠0:=by omega
 have hs0:i.size≠0:=by omega
 have hw:IntKind.i64.wrap (n:Int)=(n:Int):=Go.IntWalk.i64_in _ (by omega);have hns:¬ n * i.size=0:=by
  have:=Nat.mul_pos h0 hs;omega
 have h63':¬ (9223372036854775807 < (n:Int)):=by omega
 have hneg:¬ ((n:Int) < 0):=by omega
 have h48i:¬ ((281474976710656:Int) < (n:Int) * (i.bytes:Int)):=by
  omega
 have h48':¬ (281474976710656 < Builtin.nextslicecap n 0 * i.bytes):=by rw [nextslicecap_zero h0];omega
 simp [Builtin.append_,run_underlying ht,run_underlying hu,sizeOf,typeInfo,zeroValue,hi,hz,asInt,asIntOf,hn0,hs0,hw,h63',hneg,h48i,h48',Question.forced,run_firstCells_none,newRow,grownCap];omega
end
end Go.Gw

end
section
set_option linter.unusedSectionVars false
namespace Go.Gw
open Go
def J4 (s:ByteArray) (lo hi:Int):Option ByteArray:=if 0<=lo/\lo<=hi/\hi<=(s.size:Int) then some (s.extract lo.toNat hi.toNat) else none
theorem Qvf {s t:ByteArray} {lo hi:Int} (h:J4 s lo hi=some t):0<=lo/\lo<=hi/\hi<=(s.size:Int)/\t=s.extract lo.toNat hi.toNat:=by
 grind [J4]
def u8i (xs:List U8):List Int:=xs
def Jv (xs:List U8):ByteArray:=(u8i xs).foldl (fun r n=>r.push (UInt8.ofNat n.toNat)) ByteArray.empty
theorem Qyn:∀ (l:List Int) (r:ByteArray),l.foldl (fun r n=>r.push (UInt8.ofNat n.toNat)) r=⟨r.data++(l.map fun n=>UInt8.ofNat n.toNat).toArray⟩
 | [],r=>by simp
 | b::l,r=>by
  simp only [List.map_cons,List.foldl_cons];rw [Qyn l];simp [ByteArray.push]
theorem QBr (xs:List U8):Jv xs=⟨((u8i xs).map fun n=>UInt8.ofNat n.toNat).toArray⟩:=by
 simp_all [Qyn,Jv]
theorem Qng (s:ByteArray):Jv (bl s)=s:=by
 rw [QBr];show (⟨((s.data.toList.map fun b=>((b.toNat:Nat):Int)).map fun n:Int=>UInt8.ofNat n.toNat).toArray⟩:ByteArray)=s;rw [List.map_map];have:((fun n:Int=>UInt8.ofNat n.toNat) ∘ fun b:UInt8=>((b.toNat:Nat):Int))=id:=by
  funext b;simp
 simp_all
theorem Qkp (a b:ByteArray):bl (a++b)=bl a++bl b:=by
 show List.map (fun b:UInt8=>((b.toNat:Nat):Int)) (a++b).data.toList=List.map (fun b:UInt8=>((b.toNat:Nat):Int)) a.data.toList++List.map (fun b:UInt8=>((b.toNat:Nat):Int)) b.data.toList;simp
section
variable {P:Program} [JD P] {n:Nat} {ρ:Env} {w:World}
variable {d:Option Nat} {t T U:TypeId} {p:String} {af:Array Edge} {gu:Option (Nat×Bool)} {x y z:Operand}
theorem QFm {s r:ByteArray} {k k':IntKind} {lo hi:Int} (hu:P.underlying T=some .string) (h:J4 s lo hi=some r) (hx:Qm n ρ x=.string s) (hl:Qm n ρ y=.int k lo) (hh:Qm n ρ z=.int k' hi) :
  Yl P n ρ ⟨d,.slice T x (some y) (some z) none,t,p,af,gu⟩ w (.string r):=by
 obtain ⟨h0,h1,h2,rfl⟩:=Qvf h;refine YL (X0 (J5 _ _ _ _ _)) fun w1 _=>?_;have e1:=Qdg (P:=P) (w:=w1) (k:=k') (i:=hi) (y:=s.size) (c:=.sliceAlen) (by omega) (by omega);have e2:=Qdg (P:=P) (w:=w1) (k:=k) (i:=lo) (y:=hi.toNat) (c:=.sliceB) h0 (by omega);simp_all [execOp,Instr.sliceAt,Instr.slice,run_underlying,Instr.sliceBounds]
theorem QFk {s r:ByteArray} {k':IntKind} {hi:Int} (hu:P.underlying T=some .string) (h:J4 s 0 hi=some r) (hx:Qm n ρ x=.string s) (hh:Qm n ρ z=.int k' hi) :
  Yl P n ρ ⟨d,.slice T x none (some z) none,t,p,af,gu⟩ w (.string r):=by
 obtain ⟨h0,h1,h2,rfl⟩:=Qvf h;refine YL (X0 (J5 _ _ _ _ _)) fun w1 _=>?_;simp_all [execOp,Instr.sliceAt,Instr.slice,run_underlying,Instr.sliceBounds,Qdg]
theorem QFl {s r:ByteArray} {k:IntKind} {lo:Int} (hu:P.underlying T=some .string) (h:J4 s lo (s.size:Int)=some r) (hx:Qm n ρ x=.string s) (hl:Qm n ρ y=.int k lo) :
  Yl P n ρ ⟨d,.slice T x (some y) none none,t,p,af,gu⟩ w (.string r):=by
 obtain ⟨h0,h1,h2,rfl⟩:=Qvf h;refine YL (X0 (J5 _ _ _ _ _)) fun w1 _=>?_;simp_all [execOp,Instr.sliceAt,Instr.slice,run_underlying,Instr.sliceBounds,Qdg]
omit [JD P] in
theorem QIz {L:List Value} {cs:List Value} {xs:List U8} (h:Elems L w cs xs):cs=(u8i xs).map (Value.int .u8):=by
 obtain ⟨h1,h2⟩:=h;have h1:cs.length=xs.length * 1:=h1;rw [Ea] at h1;apply List.ext_getElem?;intro i;rcases Nat.lt_or_ge i xs.length with hi | hi
 ·have hx:xs[i]?=some xs[i]:=List.getElem?_eq_getElem hi;have h3:(cs.drop (i * 1)).take 1=[.int .u8 xs[i]]:=h2 i _ hx;have h4:((cs.drop (i * 1)).take 1)[0]?=some (.int .u8 xs[i]):=by rw [h3];rfl
  rw [Ea,List.getElem?_take_of_lt (by omega),List.getElem?_drop,Nat.add_zero] at h4;rw [h4];rw [List.getElem?_map];have hx':(u8i xs)[i]?=some (xs[i]:Int):=hx
  grind
 ·rw [List.getElem?_eq_none (by omega),List.getElem?_eq_none (by rw [List.length_map];exact hi)]
end
end Go.Gw
namespace Go.Gw
open Go
section
variable {P:Program} [JD P] {n:Nat} {ρ:Env} {w:World}
variable {d:Option Nat} {t T U:TypeId} {p:String} {af:Array Edge} {gu:Option (Nat×Bool)} {x y z:Operand}
variable {ps rs:Array TypeId} {va:Bool} {f:Fn} {a c:Array Value}
theorem QUl {es:Array Event} (hu:P.underlying T=some (.func ps rs va)):(Op.equal T (.func f a c) .nilFunc).runT P w es=(.ok false w,es):=by
 rw [Op.equal,show Op.maxDepth=9999+1 from rfl,Op.equalIn];exact (Xb (Y4 hu)).trans rfl
theorem QUm {es:Array Event} (hu:P.underlying T=some (.func ps rs va)):(Op.equal T .nilFunc .nilFunc).runT P w es=(.ok true w,es):=by
 rw [Op.equal,show Op.maxDepth=9999+1 from rfl,Op.equalIn];exact (Xb (Y4 hu)).trans rfl
theorem QFh (hu:P.underlying T=some (.func ps rs va)) (hx:Qm n ρ x=.func f a c) (hy:Qm n ρ y=.nilFunc):Yl P n ρ ⟨d,.binOp .neq T x y U,t,p,af,gu⟩ w (.bool true):=Ym fun w es=>by
 simp only [execOp,hx,hy,eqGuard,binOp];refine (Xb (Xb (QUl hu))).trans rfl
theorem Q0k (hu:P.underlying T=some (.func ps rs va)) (hx:Qm n ρ x=.nilFunc) (hy:Qm n ρ y=.nilFunc):Yl P n ρ ⟨d,.binOp .neq T x y U,t,p,af,gu⟩ w (.bool false):=Ym fun w es=>by
 simp only [execOp,hx,hy,eqGuard,binOp];refine (Xb (Xb (QUm hu))).trans rfl
end
end Go.Gw

end
section
set_option linter.unusedSectionVars false
namespace Go.Gw
open Go
def mkZ {α:Type} (i:Int) (zero:α):Option (List α):=if 0 < i/\i<=1048576 then some (List.replicate i.toNat zero) else none
theorem QPh {α:Type} {i:Int} {zero:α} {xs:List α} (h:mkZ i zero=some xs):0 < i/\i<=1048576/\xs=List.replicate i.toNat zero:=by
 grind [mkZ]
section
variable {P:Program} [JD P] {n:Nat} {ρ:Env} {w:World}
variable {d:Option Nat} {t T U I:TypeId} {p:String} {af:Array Edge} {gu:Option (Nat×Bool)} {x y z:Operand}
theorem Qgq {e:TypeId} {aT:Array TypeId} (ha:aT[0]?=some T) (hu:P.underlying T=some (.slice e)) (hx:Qm n ρ x=.slice none 0 0):Yl P n ρ ⟨d,.call ⟨.builtin .cap,#[x],aT⟩,t,p,af,gu⟩ w (.int .i64 0):=Ym fun w es=>by
 simp [execOp,resolve,invoke,builtin,Builtin.cap_,ha,hx,run_underlying hu,goInt]
theorem QFf {e:TypeId} {k:IntKind} {sz:Nat} (hu:P.underlying T=some (.slice e)) (hz:Xi P e sz) (hx:Qm n ρ x=.slice none 0 0) (hh:Qm n ρ z=.int k 0):Yl P n ρ ⟨d,.slice T x none (some z) none,t,p,af,gu⟩ w (.slice none 0 0) :=
 YL (X0 (J5 _ _ _ _ _)) fun w1 _=>by
  simp [execOp,hx,hh,Instr.sliceAt,Instr.slice,run_underlying hu,Instr.sliceBounds,Instr.sliceBound,asIntOf,YW hz]
theorem Qyd {α:Type} [Rep α] {e:TypeId} {bytes:Nat} {c:Value} {zcs:List Value} {L:List Value} {i:Int} {zero:α} {xs:List α} {k:IntKind} {K:Value->World->Prop} (hu:P.underlying T=some (.slice e)) (hI:P.underlying I=some (.int k)) (hi:EInfo P e (Rep.n α) bytes c)
    (hcc:c.cells=zcs.toArray) (hbm:Nat.ble bytes 65536=true) (hz:∀ L w,Rep.rd L w zcs zero) (hx:Qm n ρ x=.slice none 0 0) (hy:Qm n ρ y=.int .i64 i) (hm:mkZ i zero=some xs)
    (h:∀ v w',Ext w w'->(∀ b,Qu v=some b->w.heap.size<=b)->Own e (v::L) w' v xs->K v w'):Eff P ⟨d,.call ⟨.builtin .append,#[x,y],#[T,I]⟩,t,p,af,gu⟩ n ρ w K:=by
  obtain ⟨h0,hmax,rfl⟩:=QPh hm;obtain ⟨ti,g1,g2,g3,g4,g5,g6⟩:=hi.ex;have hbm:bytes<=65536:=by simpa using hbm
  obtain ⟨m,rfl⟩:∃ m:Nat,i=(m:Int):=⟨i.toNat,by omega⟩;have hb:m * ti.bytes<=281474976710656:=by
    rw [g3]
    calc m * bytes<=1048576 * 65536:=Nat.mul_le_mul (by omega) hbm
      _<=_:=by decide
  have hsz:c.cells.size=Rep.n α:=g5;refine Ja (X0 (by
    grind [QXi,Qm])) fun w1 e1=>?_
  have hr:=QUx (P:=P) (w:=w1) T I t e ti c hu hI g1 g4 m (by omega) (by omega) (by omega) hb;have hcap:m<=grownCap w1 m 0 e/\grownCap w1 m 0 e<=maxLen:=by
    unfold grownCap;simp only [Question.cut];have:=Nat.mod_lt (w1.tape w1.drawn (.appendCap m 0 e)) (show 0 < 2 ^ 63 - m by omega)
    grind [maxLen]
  simp only [execOp,resolve,invoke,builtin,pure_bind,List.map_toArray,List.map_cons,List.map_nil,hx,hy,Sem.run_bind,hr,Result.andThen,Sem.run_pure,effR];generalize hC:(Builtin.zeroCells c.cells m++Builtin.zeroCells c.cells (grownCap w1 m 0 e - m))=C;have he:Ext w1 (w1.drew.alloc (.cells C e)):=(Ext.drew w1).trans (Ext.alloc _ _);have hnew:(w1.drew.alloc (.cells C e)).heap[w1.heap.size]?=some (.cells C e (0,0)):=by
    show (w1.heap.push _)[w1.heap.size]?=_;simp
  have hfl:(Builtin.zeroCells c.cells m).toList=(List.replicate m zcs).flatten:=by
    have:=Qst c.cells m (by omega)
    grind [Builtin.zeroCells,madeCells]
  refine h _ _ (e1.trans he) (fun b hb=>by have:=e1.size;grind [Qu]) ⟨(Builtin.zeroCells c.cells m).toList,⟨?_,.inr ⟨w1.heap.size,grownCap w1 m 0 e,C,?_,Nat.zero_le _,hnew,?_,hcap.2,?_,?_⟩⟩,?_⟩
  · simp_all
  · simp
  · simp_all
  · rw [<-hC,Array.size_append,size_zeroCells,size_zeroCells,hsz,<-Nat.add_mul]
    grind
  · rw [List.length_replicate,Int.toNat_natCast,<-hC,Array.toList_append,List.take_append_of_le_length (by simp_all),List.take_of_length_le (by simp_all)]
  grind [Int.toNat_natCast,Elems.rep]
theorem Qkr {f:FuncId} {fn:Func} {c:Code} {args:List Value} {rs:List ResultVar} {Φ:Value->World->Prop} (hf:P.funcs[f]?=some fn) (hb:fn.body=some c) (hn:fn.ntmps=n) (hl:Nat.ble args.length n=true)
    (hr:fn.results=rs.toArray) (hm:Y3 rs n=true)
    (h:WC P n c ⟨fun ρ w=>∃ vs,JU P ρ w rs vs/\Φ (Jn vs) w,fun _ _ _=>False,fun ρ w=>∃ vs,JU P ρ w rs vs/\Φ (Jn vs) w⟩ (fun i=>args.getD i undef) w):CallsTo P f args w Φ:=by
  refine Qqm hf hb ?_;have hl:args.length<=n:=by simpa using hl
  rw [hn];have:=Qfi args n hl;rw [this];refine Qdl h fun e a w he=>?_;cases e<;>first
    | exact he.elim
    | (obtain ⟨_,_,hf⟩:=he;exact hf.elim)
    | (obtain ⟨ρ, rfl, vs, hv, hΦ⟩ := he
       exact ⟨rfl,Qkb hr hm hv,_,fun w1 r=>Qjf hr hm r hv,hΦ⟩)
end
end Go.Gw

end
section
set_option linter.unusedSectionVars false
namespace Go.Gw
open Go Go.MapKept
section
variable {w w':World} {b:Nat} {ks:List ByteArray} {k:ByteArray}
def MapAt (w:World) (b:Nat) (ks:List ByteArray):Prop:=∃ es c,w.heap[b]?=some (.map es c)/\es.toList.map (fun e=>(e.key,e.val))=ks.map fun k=>(Value.string k,Value.bool true)
theorem MapAt.lt (h:MapAt w b ks):b < w.heap.size:=by obtain ⟨_,_,h,_⟩:=h;grind
theorem MapAt.chg {H:List Value} (h:MapAt w b ks) (c:Chg H w w') (hA:Avoids H b):MapAt w' b ks:=by
 obtain ⟨es,cl,h1,h2⟩:=h;exact ⟨es,cl,(c.block b (ZX h1) hA).trans h1,h2⟩
theorem MapAt.ext (h:MapAt w b ks) (c:Ext w w'):MapAt w' b ks:=h.chg c (Avoids.nil _)
def Zf (ks:List ByteArray) (k:ByteArray):Bool:=ks.any fun x=>decide (k=x)
theorem memK_iff {ks:List ByteArray} {k:ByteArray}:Zf ks k=true↔k∈ks:=by
 simp_all [decide_eq_true_eq,List.any_eq_true,Zf]
def Jb (ks:List ByteArray) (k:ByteArray):List ByteArray:=if Zf ks k then ks else ks++[k]
theorem Qxi (k x:ByteArray):(k == x)=decide (k=x):=by
 by_cases h:k=x
 ·grind [bytes_beq,decide_eq_true]
 ·rw [decide_eq_false h];cases h2:(k == x) with
  | false=>rfl
  | true=>grind [absurd,bytes_beq]
theorem Qrf:∀ (es:List MapEntry) (ks:List ByteArray) (i:Nat),es.map (fun e=>(e.key,e.val))=ks.map (fun k=>(Value.string k,Value.bool true)) ->
  (k∈ks/\∃ j e,Instr.findNow .string (.string k) es i=some (some (i+j,.bool true))/\es[j]?=some e/\e.key=.string k/\e.val=.bool true)\/(k∉ks/\Instr.findNow .string (.string k) es i=some none)
 | [],ks,i,h=>by
  cases ks with
  | nil=>exact .inr ⟨by simp,rfl⟩
  | cons x xs=>simp at h
 | e::es,ks,i,h=>by
  cases ks with
  | nil=>simp at h
  | cons x xs =>
   simp only [List.map_cons,List.cons.injEq,Prod.mk.injEq] at h;obtain ⟨⟨h1,h2⟩,h3⟩:=h;by_cases hx:k=x
   ·subst hx;exact .inl ⟨by simp,0,e,by simp [Instr.findNow,Instr.sameNow,h1,h2,Qxi],rfl,h1,h2⟩
   ·have hb:(k == x)=false:=by rw [Qxi];exact decide_eq_false hx
    rcases Qrf es xs (i+1) h3 with ⟨h4,j,e',h5,h6,h7,h8⟩ | ⟨h4,h5⟩
    ·exact .inl ⟨by simp [h4],j+1,e',by simp [Instr.findNow,Instr.sameNow,h1,hb,h5];omega,by simpa using h6,h7,h8⟩
    ·exact .inr ⟨by simp [hx,h4],by simp [Instr.findNow,Instr.sameNow,h1,hb,h5]⟩
end
section
variable {P:Program} {W:World} {ev:Array Event} {r cl:Nat} {es:Array MapEntry} {T kt et:TypeId}
theorem QCl {W:World} {ev:Array Event} {r:Nat} {o:Obj} (hb:W.heap[r]?=some o) (hr:∀ cs e fz,o≠.cells cs e fz) (hc:o.isChan=false):(getObj r).runT P W ev=(.ok o W,ev.push ⟨.obj r,false,false⟩):=by
 show (Sem.getObj r .pure).runT P W ev=_
 grind [absurd,Sem.runT]
theorem QCo {W:World} {ev:Array Event} {r:Nat} {o o':Obj} (hb:W.heap[r]?=some o) (hr:∀ cs e fz,o≠.cells cs e fz) (hc:o'.isChan=false):(setObj r o').runT P W ev=(.ok () { W with heap:=W.heap.setIfInBounds r o' },ev.push ⟨.obj r,true,false⟩):=by
 show (Sem.setObj r o' (.pure ())).runT P W ev=_
 grind [Sem.runT]
theorem Qoh (hb:W.heap[r]?=some (.map es cl)):(getObj r).runT P W ev=(.ok (.map es cl) W,ev.push ⟨.obj r,false,false⟩):=by
 show (Sem.getObj r .pure).runT P W ev=_;simp only [Sem.runT,hb];rfl
theorem QCp {o:Obj} (ho:o.isChan=false) (hb:W.heap[r]?=some (.map es cl)):(setObj r o).runT P W ev=(.ok () { W with heap:=W.heap.setIfInBounds r o },ev.push ⟨.obj r,true,false⟩):=by
 show (Sem.setObj r o (.pure ())).runT P W ev=_
 grind [Sem.runT]
theorem Qua {k:ByteArray} (hk:P.underlying kt=some .string) (e:Bool) (n:Nat):(Instr.checkKey e (n+1) kt (.string k)).runT P W ev=(.ok () W,ev):=by
 unfold Instr.checkKey;exact (Xb (Y4 hk)).trans rfl
theorem Qof {k:Value} {l:List MapEntry} {a:Option (Nat×Value)} (hk:P.underlying kt=some .string) (h:Instr.findNow .string k l 0=some a):(Instr.findKey kt k l).runT P W ev=(.ok a W,ev):=by
 unfold Instr.findKey;refine (Xb (Y4 hk)).trans ?_;rw [h];rfl
theorem QUt {z:Value} (hz:(P.info? et).bind (·.zero)=some z):(zeroValue et).runT P W ev=(.ok z W,ev):=by
 cases hi:P.info? et with
 | none=>grind
 | some i =>
  simp_all [Xb,typeInfo,runT,trans,zeroValue,some]
theorem QUo {k:ByteArray}:(Instr.keyThatStays (.string k) (.string k)).runT P W ev=(.ok (.string k) W,ev):=by
 have h:Instr.sameBits 10000 (.string k) (.string k)=true:=sameBits_self (d:=.string) (k:=.string k) trivial _;simp_all [if_pos,Instr.keyThatStays]
end
section
variable {P:Program} [JD P] {n:Nat} {ρ:Env} {w w':World}
variable {d:Option Nat} {t T U kt et:TypeId} {p:String} {af:Array Edge} {gu:Option (Nat×Bool)} {x y z:Operand} {b:Nat} {ks:List ByteArray} {k:ByteArray}
theorem Qyq {α β:Type} {m:Sem α} {f:α->β} (h:Fr P m w):Fr P (m >>= fun a=>Pure.pure (f a)) w:=by
 intro w1 r F Z W es es' r' w' hA hv hr;rw [show (m >>= fun a=>Pure.pure (f a))=m.bind (fun a=>Pure.pure (f a)) from rfl,Go.Sem.runT_bind'] at hr;generalize hx:m.runT P w1 es=q at hr;obtain ⟨q1,q2⟩:=q;cases q1 with
 | halt h' w2=>cases hr
 | ok a w2 =>
  have hr:((.ok (f a) w2:Result β),q2)=(.ok r' w',es'):=hr;cases hr;obtain ⟨F',W',us,h1,h2⟩:=h w1 r hA hv hx;refine ⟨F',W',us,?_,h2⟩;simp_all
theorem Qkz {K:Value->World->Prop} (h:∀ b w',w.heap.size<=b->Ext w w'->MapAt w' b []->K (.map (some b)) w'):Eff P ⟨d,.makeMap T none,t,p,af,gu⟩ n ρ w K:=by
 refine Ja (X0 (.bnd (Qka _ rfl) fun _=>.pure _)) fun w1 e1=>?_;have hr:(execOp (Qm n ρ) ⟨d,.makeMap T none,t,p,af,gu⟩).run P w1=.ok (.value (.map (some w1.heap.size))) (w1.alloc (.map #[] 0)):=by rfl
 rw [hr];have hh:=heap_alloc w1 (.map #[] 0);have he:Ext w1 (w1.alloc (.map #[] 0)):=Ext.alloc w1 _;exact h _ _ e1.size (e1.trans he) ⟨#[],0,hh.1,rfl⟩
theorem QCm {W:World} {ev:Array Event} {es:Array MapEntry} {cl:Nat} (hu:P.underlying T=some (.map kt et)) (hk:P.underlying kt=some .string) (hz:(P.info? et).bind (·.zero)=some (.bool false))
  (hb:W.heap[b]?=some (.map es cl)) (he:es.toList.map (fun e=>(e.key,e.val))=ks.map fun k=>(Value.string k,Value.bool true)) :
  (Instr.lookup T (.map (some b)) (.string k) false).runT P W ev=(.ok (.bool (Zf ks k)) W,ev.push ⟨.obj b,false,false⟩):=by
 unfold Instr.lookup;refine (Xb (Y4 hu)).trans ?_;dsimp only;refine (Xb (Xb (Qoh hb))).trans ?_;refine (Xb (Qua hk _ _)).trans ?_;rcases Qrf (k:=k) es.toList ks 0 he with ⟨h1,j,e,h2,h3,h4,h5⟩ | ⟨h1,h2⟩
 ·refine (Xb (Qof hk h2)).trans ?_;rw [memK_iff.2 h1];rfl
 ·refine (Xb (Qof hk h2)).trans ?_;dsimp only;refine (Xb (QUt hz)).trans ?_;simp_all [Zf,false,Bool.eq_false_iff,memK_iff]
theorem Qpi (hu:P.underlying T=some (.map kt et)) (hk:P.underlying kt=some .string) (hz:(P.info? et).bind (·.zero)=some (.bool false)) (hx:Qm n ρ x=.map (some b)) (hy:Qm n ρ y=.string k) (hm:MapAt w b ks) :
  Yl P n ρ ⟨d,.lookup T x y false,t,p,af,gu⟩ w (.bool (Zf ks k)):=by
 have hE:execOp (Qm n ρ) ⟨d,.lookup T x y false,t,p,af,gu⟩=(Instr.lookup T (.map (some b)) (.string k) false >>= fun v=>Pure.pure (Next.value v)):=by grind [execOp]
 refine ⟨?_,fun w1 r=>?_⟩
 ·rw [hE];refine Qyq fun w1 r=>?_;obtain ⟨es,cl,h1,h2⟩:=hm.ext r.ext;exact Qrg ⟨h1,(by simp),(by intro e;cases e)⟩ fun W ev hW=>QCm hu hk hz hW h2
 ·obtain ⟨es,cl,h1,h2⟩:=hm.ext r.ext;rw [<-Sem.runT_fst P _ w1 #[],hE,Xb (QCm hu hk hz h1 h2)];rfl
theorem QCq {W:World} {ev:Array Event} {es:Array MapEntry} {cl:Nat} (hu:P.underlying T=some (.map kt et)) (hk:P.underlying kt=some .string)
  (he:es.toList.map (fun e=>(e.key,e.val))=ks.map fun k=>(Value.string k,Value.bool true)) :
  ∃ es' cl',es'.toList.map (fun e=>(e.key,e.val))=(Jb ks k).map (fun k=>(Value.string k,Value.bool true))/\∀ W ev,W.heap[b]?=some (.map es cl) ->
  (Instr.mapUpdate T (.map (some b)) (.string k) (.bool true)).runT P W ev=(.ok () { W with heap:=W.heap.setIfInBounds b (.map es' cl') },(ev.push ⟨.obj b,false,false⟩).push ⟨.obj b,true,false⟩):=by
 rcases Qrf (k:=k) es.toList ks 0 he with ⟨h1,j,e,h2,h3,h4,h5⟩ | ⟨h1,h2⟩
 ·have hj:es[j]?=some e:=by grind
  refine ⟨es.modify j fun e=>{ e with key:=.string k,val:=.bool true },cl,?_,fun W ev hb=>?_⟩
  ·rw [Jb,if_pos (memK_iff.2 h1),<-he];apply List.ext_getElem?
   grind
  ·unfold Instr.mapUpdate;refine (Xb (Y4 hu)).trans ?_;dsimp only;refine (Xb (Qoh hb)).trans ?_;dsimp only;refine (Xb (Qua hk _ _)).trans ?_;refine (Xb (Qof hk h2)).trans ?_;simp only [Nat.zero_add,hj,Option.map_some,Option.getD_some,h4];refine (Xb QUo).trans ?_;exact QCp rfl hb
 ·refine ⟨es.push { key:=.string k,val:=.bool true,born:=cl },cl+1,?_,fun W ev hb=>?_⟩
  ·simp_all [Jb,if_neg,memK_iff]
  ·unfold Instr.mapUpdate;refine (Xb (Y4 hu)).trans ?_;dsimp only;refine (Xb (Qoh hb)).trans ?_;dsimp only;refine (Xb (Qua hk _ _)).trans ?_;refine (Xb (Qof hk h2)).trans ?_;exact QCp rfl hb
theorem Qhq {K:Value->World->Prop} (hu:P.underlying T=some (.map kt et)) (hk:P.underlying kt=some .string) (hx:Qm n ρ x=.map (some b)) (hy:Qm n ρ y=.string k) (hv:Qm n ρ z=.bool true) (hm:MapAt w b ks)
  (h:∀ w',Chg [.pointer (some ⟨b,0,none⟩)] w w'->MapAt w' b (Jb ks k)->K undef w'):Eff P ⟨d,.mapUpdate T x y z,t,p,af,gu⟩ n ρ w K:=by
 have hE:execOp (Qm n ρ) ⟨d,.mapUpdate T x y z,t,p,af,gu⟩=(Instr.mapUpdate T (.map (some b)) (.string k) (.bool true) >>= fun _=>Pure.pure Next.skip):=by grind [execOp]
 refine ⟨?_,.inr fun w1 r=>?_⟩
 ·rw [hE];refine Qyq fun w1 r=>?_;obtain ⟨es,cl,h1,h2⟩:=hm.ext r.ext;obtain ⟨es',cl',_,h4⟩:=QCq (P:=P) (W:=w1) (ev:=#[]) (b:=b) (k:=k) (cl:=cl) hu hk h2;exact Qhs ⟨h1,(by simp),(by intro e;cases e)⟩ (by simp) h4
 ·obtain ⟨es,cl,h1,h2⟩:=hm.ext r.ext;obtain ⟨es',cl',h3,h4⟩:=QCq (P:=P) (W:=w1) (ev:=#[]) (b:=b) (k:=k) (cl:=cl) hu hk h2;rw [<-Sem.runT_fst P _ w1 #[],hE,Xb (h4 w1 _ h1)];have hlt:b < w1.heap.size:=ZX h1;refine h _ (r.ext.mono (fun _ h=>by cases h) |>.trans ⟨rfl,rfl,rfl,by simp,fun i hi hA=>?_⟩) ⟨es',cl',by simp [hlt],h3⟩;have hne:b≠i:=fun e=>hA _ (List.mem_singleton.2 rfl) (by simp [Qu,e])
  simp_all
theorem Qwf {aT:Array TypeId} (ha:aT[0]?=some T) (hu:P.underlying T=some (.map kt et)) (hx:Qm n ρ x=.map (some b)) (hm:MapAt w b ks) :
    Yl P n ρ ⟨d,.call ⟨.builtin .len,#[x],aT⟩,t,p,af,gu⟩ w (goInt ks.length):=by
  have hE : ∀ (W : World) (ev : Array Event) (es : Array MapEntry) (cl : Nat), W.heap[b]? = some (.map es cl) -> es.toList.map (fun e => (e.key, e.val)) = ks.map (fun k => (Value.string k, Value.bool true)) ->
      (execOp (Qm n ρ) ⟨d,.call ⟨.builtin .len,#[x],aT⟩,t,p,af,gu⟩).runT P W ev=(.ok (.value (goInt ks.length)) W,ev.push ⟨.obj b,false,false⟩):=by
    intro W ev es cl hb he;have hl:es.size=ks.length:=by simpa using congrArg List.length he
    have hg:(Sem.getObj b .pure).runT P W ev=_:=Qoh (P:=P) (ev:=ev) hb;rw [Sem.runT_eq] at hg;obtain ⟨g1,g2⟩:=Prod.mk.inj hg;simp [execOp,resolve,invoke,builtin,Builtin.len_,ha,goInt,getObj,hx,hu,g1,g2,hl,underlying,Result.andThen]
  refine ⟨fun w1 r=>?_,fun w1 r=>?_⟩
  · obtain ⟨es,cl,h1,h2⟩:=hm.ext r.ext;exact Qrg ⟨h1,(by simp),(by intro e;cases e)⟩ fun W ev hW=>hE W ev es cl hW h2
  · obtain ⟨es,cl,h1,h2⟩:=hm.ext r.ext;rw [<-Sem.runT_fst P _ w1 #[],hE w1 _ es cl h1 h2]
end
end Go.Gw

end
section
set_option linter.unusedSectionVars false
set_option linter.unusedVariables false
namespace Go.Gw
open Go
section
variable {P:Program} {α β:Type} {w:World}
theorem EvOk.more {F F' Z:Nat->Prop} {e:Event} (h:EvOk F Z e) (hF:∀ b,F b->F' b):EvOk F' Z e:=h.imp (fun ⟨a,h1,h2,h3,h4⟩=>⟨a,h1,h2,hF _ h3,h4⟩) id
theorem Qfk {m:Sem α} {f:α->Sem β} (h:YY P m w) (hf:∀ a w',m.run P w=.ok a w'->YY P (f a) w'):YY P (m >>= f) w:=by
 intro F Z W es es' r w' hA hv hr;rw [show (m >>= f)=m.bind f from rfl,Go.Sem.runT_bind'] at hr;generalize hx:m.runT P w es=x at hr;obtain ⟨x1,x2⟩:=x;cases x1 with
 | halt h w1=>cases hr
 | ok a w1 =>
  have hr:(f a).runT P w1 x2=(.ok r w',es'):=hr;obtain ⟨F1,W1,us1,k1,k2,k3,k4,k5⟩:=h hA hv hx;obtain ⟨F2,W2,us2,l1,l2,l3,l4,l5⟩:=hf a w1 (by simp_all) k2.agr k3 hr;refine ⟨F2,W2,us1++us2,?_,k2.trans l2,l3,by simp_all,fun e he=>?_⟩
  ·simp_all
  ·rcases Array.mem_append.1 he with he | he
   ·exact (k5 e he).more l2.more
   simp_all
theorem Qlg (a:α):YY P (Pure.pure a:Sem α) w:=(Tame.pure a).fr0
theorem Qpx {F Z:Nat->Prop} {w W:World} (h:Agr F Z w W) {b:Nat} {cs:Array Value} {e:TypeId} {fz:Nat×Nat} (hb:w.heap[b]?=some (.cells cs e fz)) (h0:0 < cs.size):F b:=Classical.byContradiction fun hn=>by
 have h2:=Option.some.inj (hb.symm.trans (h.hid b hn (ZX hb)));cases h2
theorem QGi {F Z:Nat->Prop} {w W:World} (h:Agr F Z w W) {b:Nat} {cs:Array Value} {e:TypeId} (hb:w.heap[b]?=some (.cells cs e (0,0))) (h0:0 < cs.size):F b/\¬ Z b/\W.heap[b]?=some (.cells cs e (0,0)):=by
 have hF:=Qpx h hb h0;have hz:¬ Z b:=fun hz=>by
  obtain ⟨cs',e',fz,h1,_⟩:=h.shr b hF hz
  grind
 exact ⟨hF,hz,(h.own b hF hz).trans hb⟩
theorem QLg {b:Nat} {cs:Array Value} {e:TypeId} {fz:Nat×Nat} (hb:w.heap[b]?=some (.cells cs e fz)) (h0:0 < cs.size):YY P (shape b) w:=by
 intro F Z W es es' r w' hA hv hr;have hF:=Qpx hA hb h0;have hW:∃ fz',W.heap[b]?=some (.cells cs e fz'):=by
  rcases Classical.em (Z b) with hz | hz
  ·obtain ⟨cs',e',fz',h1,h2⟩:=hA.shr b hF hz;simp_all
  ·exact ⟨fz,(hA.own b hF hz).trans hb⟩
 obtain ⟨fz',hW⟩:=hW;have h1:∀ (W:World) (fz:Nat×Nat) (es:Array Event),W.heap[b]?=some (.cells cs e fz)->(shape b).runT P W es=(.ok (some (e,cs.size)) W,es):=fun W fz es hW=>by
  simp_all [Sem.runT,World.shape?,Sem.shape,pure,runT]
 rw [h1 w fz es hb] at hr;cases hr;exact ⟨F,W,#[],h1 W fz' es hW,⟨hA,fun _ x=>x,fun _ x=>.inl x,Eb _,fun _ _ _=>rfl,rfl,rfl,rfl⟩,hv,by simp,by simp⟩
theorem QVc {b:Nat} {cs:Array Value} {e:TypeId} {fz:Nat×Nat} (hb:w.heap[b]?=some (.cells cs e fz)):(shape b).run P w=.ok (some (e,cs.size)) w:=by
 simp_all [Sem.run,World.shape?,Sem.shape,pure]
theorem Qdc {w:World} {a:Addr} {m b:Nat} (hm:m≠0):(w.freeze a m).heap[b]?=if b=a.block then (w.heap[b]?).map (fun o=>match o with | .cells c elem (lo,hi)=>.cells c elem (if lo == hi then (a.off,a.off+m) else (min lo a.off,max hi (a.off+m))) | o=>o) else w.heap[b]?:=by
 unfold World.freeze
 grind
theorem Qjl {w:World} {a:Addr} {m:Nat}:(w.freeze a m).heap.size=w.heap.size:=by grind [World.freeze]
theorem same_freeze {w:World} {a:Addr} {m:Nat}:(w.freeze a m).tape=w.tape/\(w.freeze a m).drawn=w.drawn/\(w.freeze a m).os=w.os/\(w.freeze a m).output=w.output:=by grind [World.freeze]
theorem QGg {F Z:Nat->Prop} {w W:World} (h:Agr F Z w W) {a:Addr} {m:Nat} (hm:m≠0) (hF:F a.block) (hz:¬ Z a.block):Agr F Z (w.freeze a m) (W.freeze a m) where
 tape:=by rw [same_freeze.1,same_freeze.1,h.tape]
 drawn:=by rw [same_freeze.2.1,same_freeze.2.1,h.drawn]
 os:=by rw [same_freeze.2.2.1,same_freeze.2.2.1,h.os]
 output:=by rw [same_freeze.2.2.2,same_freeze.2.2.2,h.output]
 size:=by rw [Qjl,Qjl,h.size]
 own:=fun b hb hzb=>by rw [Qdc hm,Qdc hm,h.own b hb hzb]
 shr:=fun b hb hzb=>by
  have hne:b≠a.block:=fun e=>hz (e▸hzb)
  rw [Qdc hm,Qdc hm,if_neg hne,if_neg hne];exact h.shr b hb hzb
 hid:=fun b hb hlt=>by
  have hne:b≠a.block:=fun e=>hb (e▸hF)
  rw [Qdc hm,if_neg hne];exact h.hid b hb (by grind [Qjl])
 zf:=h.zf
theorem QSi {w:World} {a:Addr} {m:Nat} (hm:m≠0) (h:NoView w):NoView (w.freeze a m):=fun b x u e=>by
 rw [Qdc hm] at e;split at e
 ·cases hb:w.heap[b]? with
  | none=>simp_all
  | some o =>
   rw [hb] at e;cases o<;>simp at e
   rename_i x' u';exact h b x' u' hb
 ·exact h b x u e
theorem QLf {a:Addr} {m:Nat} {cs:Array Value} {e:TypeId} (hm:m≠0) (hb:w.heap[a.block]?=some (.cells cs e (0,0))) (h0:0 < cs.size):YY P (freeze a m) w:=by
 intro F Z W es es' r w' hA hv hr;obtain ⟨hF,hz,hW⟩:=QGi hA hb h0;have h1:∀ (W:World) (es:Array Event),(freeze a m).runT P W es=(.ok () (W.freeze a m),es):=fun W es=>rfl
 rw [h1] at hr;cases hr;refine ⟨F,W.freeze a m,#[],h1 W es,⟨QGg hA hm hF hz,fun _ x=>x,fun _ x=>.inl x,by rw [Qjl];omega,fun b hb hk=>?_,same_freeze.1,same_freeze.2.2.1,same_freeze.2.2.2⟩,QSi hm hv,by simp,by simp⟩;rw [Qdc hm,if_neg (fun e=>by simp_all)]
end
end Go.Gw

end
section
set_option linter.unusedSectionVars false
set_option linter.unusedVariables false
namespace Go.Gw
open Go
def Qcj (v:Value):Prop:=∀ a m,v≠.slice (some a) m 0
section
variable {P:Program} [JD P] {n:Nat} {ρ:Env} {w w':World}
variable {d:Option Nat} {t T U I:TypeId} {p:String} {af:Array Edge} {gu:Option (Nat×Bool)} {x y z:Operand}
omit [JD P] in
theorem QXh {e:TypeId} (hu:P.underlying T=some (.slice e)) (hU:P.underlying U=some .string) (t:TypeId) (v x:Value):Tame P (Builtin.append_ #[T,U] t #[v,x]):=by
 unfold Builtin.append_;dsimp only [List.getElem?_toArray,List.getElem?_cons_zero,List.getElem?_cons_succ];refine .und hu ?_;dsimp only;split
 ·refine .bnd (Jy _) fun size=>.und hU ?_;simp only [Bool.false_eq_true,if_false,Bool.not_false,if_true,false_or,pure_bind];refine .bnd (Qvm _) fun n=>?_;refine Jk (.bnd (Qdk _ _ _) fun new=>?_) (.bnd (Qbn _) fun i1=>Jk (.bnd (Qcp _) fun _=>?_) ?_)
  ·split<;>first | exact .bnd (Qeo _ _ _) fun _=>.pure _ | exact .pure _
  all_goals
   refine .bnd (Qbn _) fun i2=>Jk (.bnd (.doom _ (Qya fun b=>?_)) fun _=>?_) ?_
   ·simp
   all_goals exact .bnd (Qel _) fun _=>.bnd (Qbn _) fun _=>.bnd (Qjz _) fun _=>.bnd (Qdk _ _ _) fun _=>.bnd (Qdk _ _ _) fun _=>.bnd (Qep _) fun _=>.bnd (Qem _ _) fun _=>.pure _
 ·exact YK _
omit [JD P] in
theorem QWr (s:ByteArray):Lib.strCells s=(u8i (bl s)).map (Value.int .u8):=by
 show List.map (fun b:UInt8=>Value.int .u8 b.toNat) s.data.toList=List.map (Value.int .u8) (List.map (fun b:UInt8=>((b.toNat:Nat):Int)) s.data.toList);simp
omit [JD P] in
theorem QIx (L:List Value) (w:World) (s:ByteArray):Elems L w (Lib.strCells s) (bl s):=by
 refine ⟨by rw [Lib.strCells_length,Zu];exact (Ea _).symm,fun i x hx=>?_⟩;show ((Lib.strCells s).drop (i * 1)).take 1=[.int .u8 x];have h1:(Lib.strCells s)[i]?=some (.int .u8 x):=by
  rw [QWr,List.getElem?_map];show Option.map (Value.int .u8) ((bl s)[i]?)=_;exact congrArg (Option.map (Value.int .u8)) hx
 rw [Ea]
 grind [List.drop_eq_getElem_cons,List.getElem?_eq_some_iff]
omit [JD P] in
theorem QUv {e:TypeId} {zz:Value} {L:List Value} {v:Value} {xs:List U8} {s:ByteArray} (hu:P.underlying T=some (.slice e)) (hU:P.underlying U=some .string) (hi:EInfo P e 1 1 zz) (hz:zz=.int .u8 0)
    (hown:Own e (v::L) w v xs) (hrm:Qcj v) (hb:xs.length+s.size<=140737488355328) (hm:xs.length+s.size<=maxLen) :
    ∃ v' w',(Builtin.append_ #[T,U] t #[v,.string s]).run P w=.ok v' w'/\Chg [v] w w'/\(∀ b,Qu v'=some b->Qu v=some b\/w.heap.size<=b)/\Own e (v'::L) w' v' (xs++bl s)/\Qcj v':=by
  subst hz;obtain ⟨i,h1,h2,h3,h4,h5,h6⟩:=hi.ex;obtain ⟨cells,ho,hel⟩:=hown;obtain ⟨v',w',hr,ho',hg,hnil⟩:=Lib.run_append_own_string (P:=P) w 0 T U t e i hu hU h1 h4 h2 h3 v xs.length cells ho s hm hb (Nat.zero_le _);have hc:Chg [v] w w':=Chg.of_grown hg;have hlen:(xs++bl s).length=xs.length+s.size:=by rw [List.length_append,Zu]
  have key:(∀ b,Qu v'=some b->Qu v=some b\/w.heap.size<=b)/\Qcj v':=by
    rcases ho.2 with ⟨hh,h0⟩ | ⟨g,cap',cur',hh,_,hg',h4',hcm',hcs,htake⟩
    · have hown2:w.ownsRow w.heap.size e 1 v xs.length cells:=⟨ho.1,.inl ⟨hh,h0⟩⟩;obtain ⟨v2,w2,hr2,ho2,_,hnil2⟩:=Lib.run_append_own_string (P:=P) w w.heap.size T U t e i hu hU h1 h4 h2 h3 v xs.length cells hown2 s hm hb (Eb _);rw [hr] at hr2;cases hr2;refine ⟨fun k hk=>?_,fun a m hv=>?_⟩
      · have hw : v'.ownBlock = some k := by
          rcases ho2.2 with ⟨hh,_⟩ | ⟨g2,_,_,hh,_⟩<;>subst hh
          · cases hk
          · exact hk
        exact .inr (ho2.lt k hw).1
      · rcases ho2.2 with ⟨hh',h0'⟩ | ⟨g2,cap2,cur2,hh',_,_,h42,_⟩
        · simp_all
        simp_all
    · subst hh;have hcap:cap'≠0:=fun e=>hrm ⟨g,0,none⟩ xs.length (by rw [e])
      by_cases hroom:xs.length+s.size<=cap'
      · have hcs':cur'.size=cap':=by simpa [Rep.n] using hcs
        have hr2:=Lib.run_append_room_string (P:=P) w T U t e i hu hU h1 h2 g xs.length cap' cur' hg' s hroom (by omega);rw [hr] at hr2;cases hr2;exact ⟨fun k hk=>.inl hk,fun a m hv=>by grind⟩
      · have holds:∀ j u,cells[j]?=some u->w.cell? ((⟨g,0,none⟩:Addr).add j)=some u:=World.ownsRow.cells ho (g:=g) rfl;have hr2:=Lib.run_append_grow_string (P:=P) w T U t e i _ hu hU h1 h4 ⟨g,0,none⟩ xs.length cap' cells (by rw [h2];exact ho.1) holds s (by omega) (by omega) (growslice_fits (by omega) (by grind));rw [hr] at hr2;cases hr2;refine ⟨fun k hk=>.inr ?_,fun a m hv=>?_⟩
        · grind [Qu]
        grind [grownCap_ge]
  refine ⟨v',w',hr,hc,key.1,⟨cells++Lib.strCells s,?_,?_⟩,key.2⟩
  · rw [hlen];exact ho'
  · exact (hel.step (Stepp.swap hc key.1)).append (QIx _ _ _)
theorem QIa {e:TypeId} {zz:Value} {L:List Value} {v:Value} {xs zs:List U8} {s:ByteArray} {K:Value->World->Prop} {aT:Array TypeId} (hu:P.underlying T=some (.slice e)) (hU:P.underlying U=some .string) (hi:EInfo P e 1 1 zz) (hz:zz=.int .u8 0)
  (hT:aT=#[T,U]) (hx:Qm n ρ x=v) (hy:Qm n ρ y=.string s) (hown:Own e (v::L) w v xs) (hrm:Qcj v) (hm:app xs (bl s)=some zs)
  (h:∀ v' w',Chg [v] w w'->(∀ b,Qu v'=some b->Qu v=some b\/w.heap.size<=b)->Own e (v'::L) w' v' zs->Qcj v'->K v' w'):Eff P ⟨d,.call ⟨.builtin .append,#[x,y],aT⟩,t,p,af,gu⟩ n ρ w K:=by
 subst hT;obtain ⟨hb,rfl⟩:xs.length+s.size<=1073741824/\zs=xs++bl s:=by
  grind [Zu,Option.some.inj,app]
 have e0:execOp (Qm n ρ) ⟨d,.call ⟨.builtin .append,#[x,y],#[T,U]⟩,t,p,af,gu⟩=(Builtin.append_ #[T,U] t #[v,.string s] >>= fun v=>Pure.pure (Next.value v)):=by
  simp [execOp,resolve,invoke,builtin,hx,hy]
 refine Ja (by grind [X0,QXh]) fun w1 e1=>?_;rw [e0];obtain ⟨v',w',hr,hc,hbl,ho,hrm'⟩:=QUv (P:=P) (t:=t) hu hU hi hz (hown.step (Stepp.ext e1) e1 (fun _ _=>Avoids.nil _)) hrm (s:=s) (by omega) (by unfold maxLen;omega);simp only [Sem.run_bind,hr,Result.andThen,Sem.run_pure,effR];exact h v' w' ((e1.mono (fun _ h=>by cases h)).trans hc) (fun b hb=>(hbl b hb).imp id fun h=>Nat.le_trans e1.size h) ho hrm'
def sdp:Value->Value
 | .slice (some a) _ _=>.pointer (some a)
 | _=>.pointer none
omit [JD P] in
theorem Own.nilOr {α:Type} [Rep α] {e:TypeId} {L:List Value} {v:Value} {xs:List α} (h:Own e L w v xs):v=.slice none 0 0/\xs=[]\/∃ g cap cur,v=.slice (some ⟨g,0,none⟩) xs.length cap/\w.heap[g]?=some (.cells cur e (0,0))/\xs.length<=cap/\cap<=maxLen/\cur.size=cap * Rep.n α/\Elems L w (cur.toList.take (xs.length * Rep.n α)) xs:=by
 obtain ⟨cells,ho,hel⟩:=h;rcases ho.2 with ⟨hh,h0⟩ | ⟨g,cap',cur',hh,_,hg',h4',hcm',hcs,htake⟩
 ·simp_all
 grind
theorem Q0q {e:TypeId} {L:List Value} {v:Value} {xs:List U8} {aT:Array TypeId} (hown:Own e L w v xs) (hrm:Qcj v) (hx:Qm n ρ x=v):Yl P n ρ ⟨d,.call ⟨.builtin .unsafeSliceData,#[x],aT⟩,t,p,af,gu⟩ w (sdp v):=Ym fun w es=>by
 rcases hown.nilOr with ⟨rfl,_⟩ | ⟨g,cap,cur,rfl,_⟩
 ·have hd:∀ ts,Builtin.unsafeSliceData_ ts t #[.slice none 0 0]=Pure.pure (.pointer none):=fun _=>rfl
  simp [execOp,resolve,invoke,builtin,hx,hd,sdp]
 ·have:cap≠0:=fun h=>hrm _ _ (by rw [h])
  obtain ⟨k,rfl⟩:∃ k,cap=k+1:=⟨cap - 1,by omega⟩;have hd:∀ ts,Builtin.unsafeSliceData_ ts t #[.slice (some ⟨g,0,none⟩) xs.length (k+1)]=Pure.pure (.pointer (some ⟨g,0,none⟩)):=fun _=>rfl
  simp [execOp,resolve,invoke,builtin,hx,hd,sdp]
omit [JD P] in
theorem QXq (a:Addr):∀ (m:Nat) (acc:ByteArray),Tame P (loadBytes a acc m):=by
 intro m
 induction m generalizing a with
 | zero=>intro acc;exact .pure _
 | succ m ih =>
  intro acc;unfold loadBytes;refine .bnd (Qvn _) fun v=>?_
  grind [YK]
omit [JD P] in
theorem QCv:∀ (l:List Int) (a:Addr) (acc:ByteArray),(∀ j x,l[j]?=some x->w.cell? (a.add j)=some (.int .u8 x)) ->
  (loadBytes a acc l.length).run P w=.ok ⟨acc.data++(l.map fun n=>UInt8.ofNat n.toNat).toArray⟩ w
 | [],a,acc,_=>by rfl
 | x::l,a,acc,h=>by
  have h0:w.cell? a=some (.int .u8 x):=by
   have:=h 0 x rfl;trivial
  have ih:=QCv l (a.add 1) (acc.push (UInt8.ofNat x.toNat)) (fun j y hy=>by
   have:=h (j+1) y (by grind)
   grind [Addr.add])
  simp_all [ByteArray.push,ByteArray.ext,Eq.trans,List.length_cons,loadBytes,Sem.run_bind,run_load,Result.andThen]
omit [JD P] in
theorem QYo (pt it ty:TypeId) (q:Option Addr):Builtin.unsafeString_ #[pt,it] ty #[.pointer q,.int .i64 0]=Pure.pure (.string .empty):=by
 cases q<;>rfl
omit [JD P] in
theorem QEv (pt it ty:TypeId) (a:Addr) (l:Nat) (h0:l≠0) (h1:l<=9223372036854775807):Builtin.unsafeString_ #[pt,it] ty #[.pointer (some a),.int .i64 l] =
    (elemOf pt >>= fun e => variablesAt a e l >>= fun ok => if ok = true then loadBytes a .empty l >>= fun s => freeze a l >>= fun _ => Pure.pure (.string s) else unsupported (.unsafePointer "String: not so many bytes at ptr")) := by
  have hdef : Builtin.unsafeString_ #[pt, it] ty #[.pointer (some a), .int .i64 l] =
      (do
        let n <-asInt (.int .i64 l)
        if n < 0 then runtimePanic (.error "unsafe.String: len out of range")
        if n > IntKind.i64.max then unsupported (.unsafePointer "String: a length above the largest int")
        if n=0 then Pure.pure (.string .empty)
        else if <-variablesAt a (<-elemOf pt) n.toNat then do
          let s <-loadBytes a .empty n.toNat
          freeze a n.toNat
          Pure.pure (.string s)
        else unsupported (.unsafePointer "String: not so many bytes at ptr")) := rfl
  have hmax:IntKind.i64.max=9223372036854775807:=rfl;have g1:¬ (l:Int) < 0:=by omega
  have g2:¬ (l:Int) > IntKind.i64.max:=by omega
  simp_all [asInt,asIntOf,pure_bind,if_neg,Int.toNat_natCast,Int]
omit [JD P] in
theorem QCx {e it ty pt:TypeId} {zz:Value} {L:List Value} {v:Value} {xs:List U8} (hp:P.underlying pt=some (.pointer e)) (hi:EInfo P e 1 1 zz) (hown:Own e L w v xs) :
    YY P (Builtin.unsafeString_ #[pt,it] ty #[sdp v,.int .i64 xs.length]) w/\∃ w',(Builtin.unsafeString_ #[pt,it] ty #[sdp v,.int .i64 xs.length]).run P w=.ok (.string (Jv xs)) w'/\Chg [v] w w':=by
  by_cases h0:xs.length=0
  · have hx:xs=[]:=List.eq_nil_of_length_eq_zero h0;have h1:∃ q,sdp v=.pointer q:=by
      rcases hown.nilOr with ⟨rfl,_⟩ | ⟨g,cap,cur,rfl,_⟩
      · exact ⟨_,rfl⟩
      · exact ⟨_,rfl⟩
    obtain ⟨q,hq⟩:=h1;rw [hq,hx];rw [show ((([]:List U8).length:Nat):Int)=0 from rfl,QYo];exact ⟨Qlg _,w,rfl,Chg.refl _ _⟩
  · rcases hown.nilOr with ⟨_,hx⟩ | ⟨g,cap,cur,rfl,hg,hle,hcm,hsz,hel⟩
    · simp_all
    have hsz:cur.size=cap:=by rw [hsz];exact Ea _
    have hel:Elems L w (cur.toList.take xs.length) xs:=by
      simp_all [Rep.n,U8,Ea]
    have hpos:0 < cur.size:=by omega
    obtain ⟨i,i1,i2,i3,i4,i5,i6⟩:=hi.ex;have hc1:P.cellsOf e=1:=by simp [Program.cellsOf,i1,i2]
    have h63:xs.length<=9223372036854775807:=by grind [maxLen]
    have hcells:=QIz hel;have hcell:∀ j y,(u8i xs)[j]?=some y->w.cell? ((⟨g,0,none⟩:Addr).add j)=some (.int .u8 y):=fun j y hy=>by
      have h1:(cur.toList.take xs.length)[j]?=some (.int .u8 y):=by grind
      grind [World.cell?,YP,List.getElem?_take_of_lt,List.getElem?_eq_some_iff]
    have hlies:=Lib.liesAt_bytes (P:=P) hc1 (cur.size / P.cellsOf e) xs.length (by grind);have e1:(elemOf pt).run P w=.ok e w:=by simp [elemOf,run_underlying hp]
    have e2:(variablesAt ⟨g,0,none⟩ e xs.length).run P w=.ok true w:=by simp [variablesAt,World.shape?,hg,hlies]
    have e3:(loadBytes ⟨g,0,none⟩ .empty xs.length).run P w=.ok (Jv xs) w:=by
      have:=QCv (P:=P) (u8i xs) ⟨g,0,none⟩ .empty hcell;rw [QBr];refine Eq.trans this ?_;simp
    refine ⟨?_,w.freeze ⟨g,0,none⟩ xs.length,?_,?_⟩
    · show YY P (Builtin.unsafeString_ #[pt,it] ty #[.pointer (some ⟨g,0,none⟩),.int .i64 xs.length]) w;rw [QEv _ _ _ _ _ h0 h63];have hsh:YY P (shape g) w:=QLg hg hpos;have hva:YY P (variablesAt ⟨g,0,none⟩ e xs.length) w:=by
        unfold variablesAt;refine Qfk (Tame.program _ (.pure _)).fr0 fun P' w1 hr1=>?_;cases hr1
        grind [Qlg,QVc,Qfk]
      have hea:YY P (elemOf pt) w:=(QEg _).fr0;have hla:YY P (loadBytes ⟨g,0,none⟩ .empty xs.length) w:=(QXq _ _ _).fr0;have hfa:YY P (freeze ⟨g,0,none⟩ xs.length) w:=QLf (a:=⟨g,0,none⟩) h0 hg hpos;refine @Qfk P _ _ w _ _ hea ?_;intro e' w1 hr1;rw [e1] at hr1;cases hr1;refine @Qfk P _ _ w _ _ hva ?_;intro ok w1 hr1;rw [e2] at hr1;cases hr1;rw [if_pos rfl]
      grind [Qlg,Qfk]
    · show (Builtin.unsafeString_ #[pt,it] ty #[.pointer (some ⟨g,0,none⟩),.int .i64 xs.length]).run P w=_;rw [QEv _ _ _ _ _ h0 h63];simp only [Sem.run_bind,e1,e2,e3,Result.andThen,if_true];rfl
    · refine ⟨same_freeze.2.2.1,same_freeze.1,same_freeze.2.2.2,by rw [Qjl];omega,fun b hb hA=>?_⟩;rw [Qdc h0,if_neg];intro e;subst e;exact absurd rfl (hA _ (List.mem_cons_self ..))
theorem QIq {e it pt:TypeId} {zz:Value} {L:List Value} {v:Value} {xs:List U8} {K:Value->World->Prop} {aT:Array TypeId} (hT:aT=#[pt,it]) (hp:P.underlying pt=some (.pointer e)) (hi:EInfo P e 1 1 zz) (hx:Qm n ρ x=sdp v) (hy:Qm n ρ y=.int .i64 xs.length)
  (hown:Own e L w v xs) (h:∀ w',Chg [v] w w'->K (.string (Jv xs)) w'):Eff P ⟨d,.call ⟨.builtin .unsafeString,#[x,y],aT⟩,t,p,af,gu⟩ n ρ w K:=by
 subst hT;have e0:execOp (Qm n ρ) ⟨d,.call ⟨.builtin .unsafeString,#[x,y],#[pt,it]⟩,t,p,af,gu⟩=(Builtin.unsafeString_ #[pt,it] t #[sdp v,.int .i64 xs.length] >>= fun v=>Pure.pure (Next.value v)):=by
  simp [execOp,resolve,invoke,builtin,hx,hy]
 refine ⟨fun w1 r=>?_,.inr fun w1 r=>?_⟩
 ·rw [e0];exact Qfk (QCx hp hi (hown.step (Stepp.ext r.ext) r.ext (fun _ _=>Avoids.nil _))).1 fun _ _ _=>Qlg _
 ·rw [e0];obtain ⟨w',hr,hc⟩:=(QCx (P:=P) (it:=it) (ty:=t) hp hi (hown.step (Stepp.ext r.ext) r.ext (fun _ _=>Avoids.nil _))).2;simp only [Sem.run_bind,hr,Result.andThen,Sem.run_pure,effR];exact h w' ((r.ext.mono (fun _ h=>by cases h)).trans hc)
end
end Go.Gw

end
section
set_option linter.unusedSectionVars false
set_option linter.unusedVariables false
namespace Go.Gw
open Go
section
variable {P:Program} {α:Type} {w:World} {b:Nat} {cs:Array Value} {e:TypeId}
theorem Qyp {m:Sem α} {r:α} {fz:Nat×Nat} (hb:w.heap[b]?=some (.cells cs e fz)) (h0:0 < cs.size) (h:∀ (W:World) (es:Array Event) fz,W.heap[b]?=some (.cells cs e fz)->m.runT P W es=(.ok r W,es)):YY P m w:=by
 intro F Z W es es' r' w' hA hv hr;have hF:=Qpx hA hb h0;have hW:∃ fz',W.heap[b]?=some (.cells cs e fz'):=by
  rcases Classical.em (Z b) with hz | hz
  ·obtain ⟨cs',e',fz',h1,h2⟩:=hA.shr b hF hz;simp_all
  ·exact ⟨fz,(hA.own b hF hz).trans hb⟩
 obtain ⟨fz',hW⟩:=hW;rw [h w es fz hb] at hr;cases hr;exact ⟨F,W,#[],h W es fz' hW,⟨hA,fun _ x=>x,fun _ x=>.inl x,Eb _,fun _ _ _=>rfl,rfl,rfl,rfl⟩,hv,by simp,by simp⟩
variable {fz:Nat×Nat} {es:Array Event}
theorem Quc (hb:w.heap[b]?=some (.cells cs e fz)):(shape b).runT P w es=(.ok (some (e,cs.size)) w,es):=by
 simp_all [Sem.runT,World.shape?,Sem.shape,pure,runT]
theorem QUs (hb:w.heap[b]?=some (.cells cs e fz)):(viewAt b).runT P w es=(.ok none w,es):=by
 unfold viewAt;exact (Xb (Quc hb)).trans rfl
theorem QCn {a:Addr} (ha:a.block=b) (hb:w.heap[b]?=some (.cells cs e fz)):(Conv.seenAt a).runT P w es=(.ok a w,es):=by
 unfold Conv.seenAt;exact (Xb (QUs (ha▸hb))).trans rfl
theorem QUk (hb:w.heap[b]?=some (.cells cs e fz)):(cellsIn b).runT P w es=(.ok (some cs.size) w,es):=by
 unfold cellsIn;exact (Xb (Quc hb)).trans rfl
theorem QUq {src dst t k:TypeId} (hs:P.underlying src=some (.pointer t)) (hd:P.underlying dst=some .unsafePointer) (ht:Xi P t (k+1)) (hb:w.heap[b]?=some (.cells cs e fz)) (h0:0 < cs.size) :
  (convert src dst (.pointer (some ⟨b,0,none⟩))).runT P w es=(.ok (.pointer (some ⟨b,0,none⟩)) w,es):=by
 have h1:(Conv.unsafePointer src dst (.pointer (some ⟨b,0,none⟩))).runT P w es=(.ok (.pointer (some ⟨b,0,none⟩)) w,es):=by
  unfold Conv.unsafePointer;refine (Xb (Y4 hs)).trans ?_;refine (Xb (Y4 hd)).trans ?_;dsimp only;refine (Xb (QCn rfl hb)).trans ?_;refine (Xb (QUk hb)).trans ?_;refine (Xb (Qje ht)).trans ?_;have:¬ cs.size=0:=by omega
  simp_all
 unfold convert;refine (Xb (Y4 hs)).trans ?_;exact (Xb (Y4 hd)).trans h1
theorem QUr {a:Addr} {u:TypeId} {m:Nat} (ha:a.block=b) (hb:w.heap[b]?=some (.cells cs e fz)):(variablesAt a u m).runT P w es=(.ok (liesAt P P.depth e (cs.size / P.cellsOf e) a.off u m) w,es):=by
 unfold variablesAt;refine (Xb (a:=P) (w':=w) (es':=es) rfl).trans ?_;subst ha;exact (Xb (Quc hb)).trans rfl
theorem QUn {src dst u k:TypeId} (hs:P.underlying src=some .unsafePointer) (hd:P.underlying dst=some (.pointer u)) (ht:Xi P u k) (hb:w.heap[b]?=some (.cells cs e fz)) (hl:liesAt P P.depth e (cs.size / P.cellsOf e) 0 u 1=true) :
  (convert src dst (.pointer (some ⟨b,0,none⟩))).runT P w es=(.ok (.pointer (some ⟨b,0,none⟩)) w,es):=by
 have h1:(Conv.unsafePointer src dst (.pointer (some ⟨b,0,none⟩))).runT P w es=(.ok (.pointer (some ⟨b,0,none⟩)) w,es):=by
  unfold Conv.unsafePointer;refine (Xb (Y4 hs)).trans ?_;refine (Xb (Y4 hd)).trans ?_;dsimp only;refine (Xb (QCn rfl hb)).trans ?_;refine (Xb (Qje ht)).trans ?_;refine (Xb (QUr rfl hb)).trans ?_;simp_all
 unfold convert;refine (Xb (Y4 hs)).trans ?_;exact (Xb (Y4 hd)).trans h1
end
section
variable {P:Program} [JD P] {n:Nat} {ρ:Env} {w w':World} {b:Nat}
variable {d:Option Nat} {t T U I:TypeId} {p:String} {af:Array Edge} {gu:Option (Nat×Bool)} {x y z:Operand}
theorem Q0t {c0:Value} {cs:List Value} {B t0 k:TypeId} (hs:P.underlying T=some (.pointer t0)) (hd:P.underlying U=some .unsafePointer) (ht:Xi P t0 (k+1)) (hB:Box w b (c0::cs) B) (hx:Qm n ρ x=.pointer (some ⟨b,0,none⟩)):Yl P n ρ ⟨d,.convert T U x,t,p,af,gu⟩ w (.pointer (some ⟨b,0,none⟩)):=by
 have e0:execOp (Qm n ρ) ⟨d,.convert T U x,t,p,af,gu⟩=(convert T U (.pointer (some ⟨b,0,none⟩)) >>= fun v=>Pure.pure (Next.value v)):=by simp [execOp,hx]
 have h1:∀ (W:World) (es:Array Event) fz,W.heap[b]?=some (.cells (c0::cs).toArray B fz)->(execOp (Qm n ρ) ⟨d,.convert T U x,t,p,af,gu⟩).runT P W es=(.ok (.value (.pointer (some ⟨b,0,none⟩))) W,es):=fun W es fz hW=>by
  rw [e0];exact (Xb (QUq hs hd ht hW (by simp))).trans rfl
 refine ⟨fun w1 r=>Qyp (hB.ext r.ext) (by simp) h1,fun w1 r=>?_⟩;rw [<-Sem.runT_fst P _ w1 #[],h1 w1 #[] _ (hB.ext r.ext)]
theorem Q0e {c0:Value} {cs:List Value} {B u k:TypeId} (hs:P.underlying T=some .unsafePointer) (hd:P.underlying U=some (.pointer u)) (ht:Xi P u k) (hB:Box w b (c0::cs) B) (hl:liesAt P P.depth B ((c0::cs).length / P.cellsOf B) 0 u 1=true) (hx:Qm n ρ x=.pointer (some ⟨b,0,none⟩)) :
  Yl P n ρ ⟨d,.convert T U x,t,p,af,gu⟩ w (.pointer (some ⟨b,0,none⟩)):=by
 have e0:execOp (Qm n ρ) ⟨d,.convert T U x,t,p,af,gu⟩=(convert T U (.pointer (some ⟨b,0,none⟩)) >>= fun v=>Pure.pure (Next.value v)):=by simp [execOp,hx]
 have h1:∀ (W:World) (es:Array Event) fz,W.heap[b]?=some (.cells (c0::cs).toArray B fz)->(execOp (Qm n ρ) ⟨d,.convert T U x,t,p,af,gu⟩).runT P W es=(.ok (.value (.pointer (some ⟨b,0,none⟩))) W,es):=fun W es fz hW=>by
  rw [e0];exact (Xb (QUn hs hd ht hW (by omega))).trans rfl
 refine ⟨fun w1 r=>Qyp (hB.ext r.ext) (by simp) h1,fun w1 r=>?_⟩;rw [<-Sem.runT_fst P _ w1 #[],h1 w1 #[] _ (hB.ext r.ext)]
theorem Q0a {e:TypeId} (hu:P.underlying T=some (.pointer e)) (hx:Qm n ρ x=.pointer none) (hy:Qm n ρ y=.pointer none):Yl P n ρ ⟨d,.binOp .eql T x y U,t,p,af,gu⟩ w (.bool true):=Ym fun w es=>by
 have h:(Op.equal T (.pointer none) (.pointer none)).runT P w es=(.ok true w,es):=by
  rw [Op.equal,show Op.maxDepth=9999+1 from rfl,Op.equalIn];exact (Xb (Y4 hu)).trans rfl
 simp_all [Xb,trans,execOp,eqGuard,binOp]
theorem Q0b {e:TypeId} {a:Addr} (hu:P.underlying T=some (.pointer e)) (hx:Qm n ρ x=.pointer (some a)) (hy:Qm n ρ y=.pointer none):Yl P n ρ ⟨d,.binOp .eql T x y U,t,p,af,gu⟩ w (.bool false):=Ym fun w es=>by
 have h:(Op.equal T (.pointer (some a)) (.pointer none)).runT P w es=(.ok false w,es):=by
  rw [Op.equal,show Op.maxDepth=9999+1 from rfl,Op.equalIn];exact (Xb (Y4 hu)).trans rfl
 simp_all [Xb,trans,execOp,eqGuard,binOp]
theorem Q0l {e k:TypeId} {a:Addr} (hu:P.underlying T=some (.pointer e)) (he:Xi P e (k+1)) (hx:Qm n ρ x=.pointer (some a)) (hy:Qm n ρ y=.pointer (some a)):Yl P n ρ ⟨d,.binOp .neq T x y U,t,p,af,gu⟩ w (.bool false):=Ym fun w es=>by
 have h:(Op.equal T (.pointer (some a)) (.pointer (some a))).runT P w es=(.ok true w,es):=by
  rw [Op.equal,show Op.maxDepth=9999+1 from rfl,Op.equalIn];refine (Xb (Y4 hu)).trans ?_;refine (Xb (Qje he)).trans ?_;simp [sameAddr,Sem.runT]
 simp_all [Xb,trans,execOp,eqGuard,binOp]
omit [JD P] in
theorem QUj {f : FuncId} {fn : Func} {g : Array Value → Sem Value} {args : Array Value} {es : Array Event} (hf : P.funcs[f]? = some fn) (hname : (fn.name == "runtime.NumGoroutine") = false) (hb : fn.body.isNone = true) (hn : Extern.findNext fn = none) (he : Extern.find fn = some g) :
    (callFunc f args).runT P w es=(g args >>= fun v=>Pure.pure (Next.value v)).runT P w (es.push ⟨.mark (.extern f),false,true⟩):=by
  have h1 : fn.name ≠ "runtime.NumGoroutine" := by simp_all
  have h2:fn.body=none:=by simpa using hb
  unfold callFunc;refine (Xb (a:=P) (w':=w) (es':=es) rfl).trans ?_;simp_all
omit [JD P] in
theorem QEf {f : FuncId} {fn : Func} {g : Array Value → Sem Value} {args : Array Value} (hf : P.funcs[f]? = some fn) (hname : (fn.name == "runtime.NumGoroutine") = false) (hb : fn.body.isNone = true) (hn : Extern.findNext fn = none) (he : Extern.find fn = some g) (ht : Tame P (g args)) : Tame P (callFunc f args) :=
  .same _ (.mark (.extern f) (g args >>= fun v=>Pure.pure (Next.value v))) (fun w es=>QUj hf hname hb hn he) (.ext f _ (.bnd ht fun _=>.pure _))
theorem QIf {f : FuncId} {fn : Func} {g : Array Value → Sem Value} {xs : Array Operand} {args : List Value} {aT : Array TypeId} {K : Value → World → Prop} (hf : P.funcs[f]? = some fn) (hname : (fn.name == "runtime.NumGoroutine") = false) (hb : fn.body.isNone = true) (hn : Extern.findNext fn = none) (he : Extern.find fn = some g)
    (ha:(xs.map (Qm n ρ)).toList=args) (ht:Tame P (g args.toArray)) (hr:∀ w1,Ext w w1->∃ v w',(g args.toArray).run P w1=.ok v w'/\K v w'):Eff P ⟨d,.call ⟨.value (.func f),xs,aT⟩,t,p,af,gu⟩ n ρ w K:=by
  have e:xs.map (Qm n ρ)=args.toArray:=by rw [<-ha]
  have e0:execOp (Qm n ρ) ⟨d,.call ⟨.value (.func f),xs,aT⟩,t,p,af,gu⟩=callFunc f args.toArray:=by
    simp only [execOp,resolve,Deferred.ofValue,invoke,e,Qm,pure_bind,Array.empty_append,Array.append_empty]
  refine Ja (by grind [QEf]) fun w1 e1=>?_;obtain ⟨v,w',h1,h2⟩:=hr w1 e1;rw [e0,run_callFunc_extern hf hname hb hn he,h1];exact h2
theorem Qwd {f : FuncId} {fn : Func} {g : Array Value → Sem Value} {xs : Array Operand} {args : List Value} {aT : Array TypeId} {v : Value} (hf : P.funcs[f]? = some fn) (hname : (fn.name == "runtime.NumGoroutine") = false) (hb : fn.body.isNone = true) (hn : Extern.findNext fn = none) (he : Extern.find fn = some g)
    (ha:(xs.map (Qm n ρ)).toList=args) (hg:g args.toArray=Pure.pure v):Yl P n ρ ⟨d,.call ⟨.value (.func f),xs,aT⟩,t,p,af,gu⟩ w v:=by
  have e:xs.map (Qm n ρ)=args.toArray:=by rw [<-ha]
  have e0:execOp (Qm n ρ) ⟨d,.call ⟨.value (.func f),xs,aT⟩,t,p,af,gu⟩=callFunc f args.toArray:=by
    simp only [execOp,resolve,Deferred.ofValue,invoke,e,Qm,pure_bind,Array.empty_append,Array.append_empty]
  refine YL (by rw [e0];exact QEf hf hname hb hn he (by rw [hg];exact .pure _)) fun w1 e1=>?_;simp_all [run_callFunc_extern]
omit [JD P] in
theorem QXo (m:Nat) (ps:Array TypeId) (t:TypeId):Tame P (Extern.BytealgMakeNoZero.makeNoZero ps #[t] #[.int .i64 m]):=by
 unfold Extern.BytealgMakeNoZero.makeNoZero
 repeat' first
  | exact .pure _
  | exact YK _
  | exact Qcp _
  | exact Qax _
  | refine .bnd (Qaf _) fun _=>?_
  | refine .bnd (Qel _) fun _=>?_
  | refine .bnd (Qjz _) fun _=>?_
  | refine .bnd (Qem _ _) fun _=>?_
  | refine .bnd (Qcp _) fun _=>?_
  | refine Jk ?_ ?_
  | split
theorem QIk {f : FuncId} {fn : Func} {e : TypeId} {ps : Array TypeId} {x : Operand} {aT : Array TypeId} {i : Int} {K : Value → World → Prop} (hf : P.funcs[f]? = some fn) (hname : (fn.name == "runtime.NumGoroutine") = false) (hb : fn.body.isNone = true) (hn : Extern.findNext fn = none)
    (he:Extern.find fn=some (Extern.BytealgMakeNoZero.makeNoZero ps #[T])) (hu:P.underlying T=some (.slice e)) (hx:Qm n ρ x=.int .i64 i) (h0:0 < i) (h1:i<=1073741824)
    (h:∀ v w',Ext w w'->(∀ b,Qu v=some b->w.heap.size<=b)->(∃ b c cs,v=.slice (some ⟨b,0,none⟩) i.toNat c/\w'.heap[b]?=some (.cells cs e (0,0))/\cs.size=c/\i.toNat<=c/\c<=maxLen)->K v w'):Eff P ⟨d,.call ⟨.value (.func f),#[x],aT⟩,t,p,af,gu⟩ n ρ w K:=by
  obtain ⟨m,rfl⟩:∃ m:Nat,i=(m:Int):=⟨i.toNat,by omega⟩;refine QIf (args:=[.int .i64 m]) hf hname hb hn he (by simp [hx]) (QXo m ps T) fun w1 e1=>?_;obtain ⟨cs,hr,hle,hmax⟩:=Lib.run_makeNoZero (P:=P) w1 ps T e hu m (by omega);refine ⟨_,_,hr,h _ _ (e1.trans ⟨rfl,rfl,rfl,by simp,fun k hk _=>Lib.alloc_old w1.drew.drew _ k hk⟩) (fun b hb=>?_) ⟨_,_,cs,rfl,heap_alloc_new w1.drew.drew _,rfl,hle,hmax (by unfold maxLen;omega)⟩⟩;have hb:some w1.heap.size=some b:=hb;cases hb;exact e1.size
def BldAt (T:TypeId) (w:World) (b:Nat) (v:Value):Prop:=Qcj v/\∃ q,(q=.pointer none\/q=.pointer (some ⟨b,0,none⟩))/\Box w b [q,v] T
omit [JD P] in
theorem BldAt.chg {T:TypeId} {v:Value} {H:List Value} (h:BldAt T w b v) (c:Chg H w w') (hA:Avoids H b):BldAt T w' b v:=by
 obtain ⟨h1,q,h2,h⟩:=h;exact ⟨h1,q,h2,h.chg c hA⟩
omit [JD P] in
theorem BldAt.ext {T:TypeId} {v:Value} (h:BldAt T w b v) (c:Ext w w'):BldAt T w' b v:=h.chg c (Avoids.nil _)
omit [JD P] in
theorem QCj:Qcj (.slice none 0 0):=fun _ _ h=>by cases h
omit [JD P] in
theorem BldAt.new {T:TypeId} (h:Box w b [.pointer none,.slice none 0 0] T):BldAt T w b (.slice none 0 0):=⟨QCj,_,.inl rfl,h⟩
end
end Go.Gw

end
section
set_option linter.unusedSectionVars false
set_option linter.unusedVariables false
namespace Go.Gw
open Go
def ixB (s:ByteArray) (c:Int):Int:=match (List.range s.size).find? fun i=>s[i]! == c.toNat.toUInt8 with
 | some i=>(i:Int)
 | none=>-1
def Qku (s:ByteArray) (c:Int):Int:=s.foldl (fun n x=>if x == c.toNat.toUInt8 then n+1 else n) ((0:Nat):Int)
section
variable {P:Program} [JD P] {n:Nat} {ρ:Env} {w:World}
variable {d:Option Nat} {t T U:TypeId} {p:String} {af:Array Edge} {gu:Option (Nat×Bool)} {x y z:Operand}
theorem Q0f {f : FuncId} {fn : Func} {aT : Array TypeId} {s : ByteArray} {c : Int} (hf : P.funcs[f]? = some fn) (hname : (fn.name == "runtime.NumGoroutine") = false) (hb : fn.body.isNone = true) (hn : Extern.findNext fn = none) (he : Extern.find fn = some Extern.BytealgIndexByte.indexByte)
    (hx:Qm n ρ x=.string s) (hy:Qm n ρ y=.int .u8 c):Yl P n ρ ⟨d,.call ⟨.value (.func f),#[x,y],aT⟩,t,p,af,gu⟩ w (.int .i64 (ixB s c)):=by
  refine Qwd (args:=[.string s,.int .u8 c]) hf hname hb hn he (by simp [hx,hy]) ?_;show ((Pure.pure s:Sem ByteArray) >>= fun b=>(Pure.pure c.toNat.toUInt8:Sem UInt8) >>= fun c=>match (List.range b.size).find? fun i=>b[i]! == c with
    | some i=>(Pure.pure (goInt i):Sem Value)
    | none=>Pure.pure (goInt (-1)))=_
  rw [pure_bind,pure_bind];unfold ixB;cases (List.range s.size).find? fun i=>s[i]! == c.toNat.toUInt8<;>rfl
theorem QZt {f : FuncId} {fn : Func} {aT : Array TypeId} {s : ByteArray} {c : Int} (hf : P.funcs[f]? = some fn) (hname : (fn.name == "runtime.NumGoroutine") = false) (hb : fn.body.isNone = true) (hn : Extern.findNext fn = none) (he : Extern.find fn = some Extern.BytealgCount.count)
    (hx:Qm n ρ x=.string s) (hy:Qm n ρ y=.int .u8 c):Yl P n ρ ⟨d,.call ⟨.value (.func f),#[x,y],aT⟩,t,p,af,gu⟩ w (.int .i64 (Qku s c)):=by
  refine Qwd (args:=[.string s,.int .u8 c]) hf hname hb hn he (by simp [hx,hy]) ?_;show ((Pure.pure s:Sem ByteArray) >>= fun b=>(Pure.pure c.toNat.toUInt8:Sem UInt8) >>= fun c=>(Pure.pure (goInt (b.foldl (fun n x=>if x == c then n+1 else n) (0:Nat))):Sem Value))=_;rw [pure_bind,pure_bind];rfl
end
end Go.Gw

end
