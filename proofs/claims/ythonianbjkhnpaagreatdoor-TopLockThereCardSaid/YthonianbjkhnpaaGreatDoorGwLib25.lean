/- Laws of the walk. Condition: each theorem says its own. -/
import Derived.Test.YthonianbjkhnpaaGreatDoorGwLib5
import Derived.MapKept
import Derived.Lib.AppendStr
import Derived.Lib.UnsafeStr
import Derived.Lib.MakeNoZero
import Derived.Lib.Builder
import Derived.Laws.Externs
import Derived.IntWalk
import Derived.Test.YthonianbjkhnpaaGreatDoorGwFacts2
import Derived.Test.YthonianbjkhnpaaGreatDoorGwVd
set_option linter.unusedVariables false
set_option linter.unusedSimpArgs false
set_option linter.unusedSectionVars false
open List renaming getElem?_eq_some_iff→Ea,mem_singleton→Ed,append_assoc→Ef,take_append_of_le_length→Eh,drop_eq_getElem_cons→Ej,take_of_length_le→Em,replicate→En,getElem?_toArray→Eo,map→Ep
open Nat renaming mul_one→Eb,le_trans→Eg,le_refl→Ei,add_sub_cancel_left→Ek,zero_le→El
open Go.Gw.Avoids renaming nil→Ec
open Int renaming toNat_natCast→Ee
section
set_option linter.unusedSectionVars false
namespace Go.Gw
open Go
def mkZ {α:Type} (i:Int) (zero:α):Option (List α):=if 0 < i/\i<=1048576 then some (En i.toNat zero) else none
theorem QOa {α:Type} {i:Int} {zero:α} {xs:List α} (h:mkZ i zero=some xs):0 < i/\i<=1048576/\xs=En i.toNat zero:=by
 grind [mkZ]
theorem Qjb {v:Value} {w:World}:∀ b,Qt v=some b->Qhl [v] w b:=fun _ hb=>.inr (Qdf (List.mem_cons_self ..) hb)
section
variable {P:Program} [JD P] {n:Nat} {ρ:Env} {w:World}
variable {d:Option Nat} {t T U I:TypeId} {p:String} {af:Array Edge} {gu:Option (Nat×Bool)} {x y z:Operand}
theorem Qpm {e:TypeId} {aT:Array TypeId} (ha:aT[0]?=some T) (hu:P.underlying T=some (.slice e)) (hx:Qo n ρ x=.slice none 0 0):Yl P n ρ ⟨d,.call ⟨.builtin .cap,#[x],aT⟩,t,p,af,gu⟩ w (.int .i64 0):=Yc fun w es=>by
 simp [execOp,resolve,invoke,builtin,Builtin.cap_,ha,hx,run_underlying hu,goInt]
theorem QXo {e:TypeId} {k:IntKind} {sz:Nat} (hu:P.underlying T=some (.slice e)) (hz:Xl P e sz) (hx:Qo n ρ x=.slice none 0 0) (hh:Qo n ρ z=.int k 0):Yl P n ρ ⟨d,.slice T x none (some z) none,t,p,af,gu⟩ w (.slice none 0 0) :=
 Zl (Yn (Qdn _ _ _ _ _)) fun w1 _=>by
  simp [execOp,hx,hh,Instr.sliceAt,Instr.slice,run_underlying hu,Instr.sliceBounds,Instr.sliceBound,asIntOf,ZE hz]
theorem QHl {α:Type} [Rep α] {e:TypeId} {bytes:Nat} {c:Value} {zcs:List Value} {L:List Value} {i:Int} {zero:α} {xs:List α} {k:IntKind} {K:Value->World->Prop} (hu:P.underlying T=some (.slice e)) (hI:P.underlying I=some (.int k)) (hi:EInfo P e (Rep.n α) bytes c)
    (hcc:c.cells=zcs.toArray) (hbm:Nat.ble bytes 65536=true) (hz:∀ L w,Rep.rd L w zcs zero) (hx:Qo n ρ x=.slice none 0 0) (hy:Qo n ρ y=.int .i64 i) (hm:mkZ i zero=some xs)
    (h:∀ v w',Ext w w'->(∀ b,Qt v=some b->w.heap.size<=b)->Own e (v::L) w' v xs->K v w'):Eff P ⟨d,.call ⟨.builtin .append,#[x,y],#[T,I]⟩,t,p,af,gu⟩ n ρ w K:=by
  obtain ⟨h0,hmax,rfl⟩:=QOa hm;obtain ⟨ti,g1,g2,g3,g4,g5,g6⟩:=hi.ex;have hbm:bytes<=65536:=by simpa using hbm
  obtain ⟨m,rfl⟩:∃ m:Nat,i=(m:Int):=⟨i.toNat,by omega⟩;have hb:m * ti.bytes<=281474976710656:=by
    rw [g3]
    calc m * bytes<=1048576 * 65536:=Nat.mul_le_mul (by omega) hbm
      _<=_:=by decide
  have hsz:c.cells.size=Rep.n α:=g5;refine Ju (Yn (by
    grind [QVi,Qo])) fun w1 e1=>?_
  have hr:=QTi (P:=P) (w:=w1) T I t e ti c hu hI g1 g4 m (by omega) (by omega) (by omega) hb;have hcap:m<=grownCap w1 m 0 e/\grownCap w1 m 0 e<=maxLen:=by
    unfold grownCap;simp only [Question.cut];have:=Nat.mod_lt (w1.tape w1.drawn (.appendCap m 0 e)) (show 0 < 2 ^ 63 - m by omega)
    grind [maxLen]
  simp only [execOp,resolve,invoke,builtin,pure_bind,List.map_toArray,List.map_cons,List.map_nil,hx,hy,Sem.run_bind,hr,Result.andThen,Sem.run_pure,effR];generalize hC:(Builtin.zeroCells c.cells m++Builtin.zeroCells c.cells (grownCap w1 m 0 e - m))=C;have he:Ext w1 (w1.drew.alloc (.cells C e)):=(Ext.drew w1).trans (Ext.alloc _ _);have hnew:(w1.drew.alloc (.cells C e)).heap[w1.heap.size]?=some (.cells C e (0,0)):=by
    show (w1.heap.push _)[w1.heap.size]?=_;simp
  have hfl:(Builtin.zeroCells c.cells m).toList=(En m zcs).flatten:=by
    have:=Qsn c.cells m (by omega)
    grind [Builtin.zeroCells,madeCells]
  refine h _ _ (e1.trans he) (fun b hb=>by have:=e1.size;grind [Qt]) ⟨(Builtin.zeroCells c.cells m).toList,⟨?_,.inr ⟨w1.heap.size,grownCap w1 m 0 e,C,?_,El _,hnew,?_,hcap.2,?_,?_⟩⟩,?_⟩
  · simp_all
  · simp
  · simp_all
  · rw [<-hC,Array.size_append,size_zeroCells,size_zeroCells,hsz,<-Nat.add_mul]
    grind
  · rw [List.length_replicate,Ee,<-hC,Array.toList_append,Eh (by simp_all),Em (by simp_all)]
  grind [Ee,Elems.rep]
theorem Qfp {f:FuncId} {fn:Func} {c:Code} {args:List Value} {rs:List ResultVar} {Φ:Value->World->Prop} (hf:P.funcs[f]?=some fn) (hb:fn.body=some c) (hn:fn.ntmps=n) (hl:Nat.ble args.length n=true)
    (hr:fn.results=rs.toArray) (hm:Zg rs n=true)
    (h:WC P n c ⟨fun ρ w=>∃ vs,J3 P ρ w rs vs/\Φ (Jz vs) w,fun _ _ _=>False,fun ρ w=>∃ vs,J3 P ρ w rs vs/\Φ (Jz vs) w⟩ (fun i=>args.getD i undef) w):CallsTo P f args w Φ:=by
  refine Qqo hf hb ?_;have hl:args.length<=n:=by simpa using hl
  rw [hn];have:=Qft args n hl;rw [this];refine Qdp h fun e a w he=>?_;cases e<;>first
    | exact he.elim
    | (obtain ⟨_,_,hf⟩:=he;exact hf.elim)
    | (obtain ⟨ρ, rfl, vs, hv, hΦ⟩ := he
       exact ⟨rfl,Qkl hr hm hv,_,fun w1 r=>Qjw hr hm r hv,hΦ⟩)
end
end Go.Gw

end
section
set_option linter.unusedSectionVars false
namespace Go.Gw
open Go Go.MapKept
section
variable {w w':World} {b:Nat} {ks:List ByteArray} {k:ByteArray}
def MapAt (w:World) (b:Nat) (ks:List ByteArray):Prop:=∃ es c,w.heap[b]?=some (.map es c)/\es.toList.map (fun e=>(e.key,e.val))=ks.map fun k=>(Value.string k,Value.bool true)
theorem MapAt.lt (h:MapAt w b ks):b < w.heap.size:=by obtain ⟨_,_,h,_⟩:=h;grind
theorem MapAt.chg {H:List Value} (h:MapAt w b ks) (c:Chg H w w') (hA:Avoids H b):MapAt w' b ks:=by
 obtain ⟨es,cl,h1,h2⟩:=h;exact ⟨es,cl,(c.block b (Ji h1) hA).trans h1,h2⟩
theorem MapAt.ext (h:MapAt w b ks) (c:Ext w w'):MapAt w' b ks:=h.chg c (Ec _)
def YQ (ks:List ByteArray) (k:ByteArray):Bool:=ks.any fun x=>decide (k=x)
theorem memK_iff {ks:List ByteArray} {k:ByteArray}:YQ ks k=true↔k∈ks:=by
 simp_all [decide_eq_true_eq,List.any_eq_true,YQ]
def ZM (ks:List ByteArray) (k:ByteArray):List ByteArray:=if YQ ks k then ks else ks++[k]
theorem Qwk (k x:ByteArray):(k == x)=decide (k=x):=by
 by_cases h:k=x
 ·grind [bytes_beq,decide_eq_true]
 ·rw [decide_eq_false h];cases h2:(k == x) with
  | false=>rfl
  | true=>grind [absurd,bytes_beq]
theorem Qre:∀ (es:List MapEntry) (ks:List ByteArray) (i:Nat),es.map (fun e=>(e.key,e.val))=ks.map (fun k=>(Value.string k,Value.bool true)) ->
  (k∈ks/\∃ j e,Instr.findNow .string (.string k) es i=some (some (i+j,.bool true))/\es[j]?=some e/\e.key=.string k/\e.val=.bool true)\/(k∉ks/\Instr.findNow .string (.string k) es i=some none)
 | [],ks,i,h=>by
  cases ks with
  | nil=>exact .inr ⟨by simp,rfl⟩
  | cons x xs=>simp at h
 | e::es,ks,i,h=>by
  cases ks with
  | nil=>simp at h
  | cons x xs =>
   simp only [List.map_cons,List.cons.injEq,Prod.mk.injEq] at h;obtain ⟨⟨h1,h2⟩,h3⟩:=h;by_cases hx:k=x
   ·subst hx;exact .inl ⟨by simp,0,e,by simp [Instr.findNow,Instr.sameNow,h1,h2,Qwk],rfl,h1,h2⟩
   ·have hb:(k == x)=false:=by rw [Qwk];exact decide_eq_false hx
    rcases Qre es xs (i+1) h3 with ⟨h4,j,e',h5,h6,h7,h8⟩ | ⟨h4,h5⟩
    ·exact .inl ⟨by simp [h4],j+1,e',by simp [Instr.findNow,Instr.sameNow,h1,hb,h5];omega,by simpa using h6,h7,h8⟩
    ·exact .inr ⟨by simp [hx,h4],by simp [Instr.findNow,Instr.sameNow,h1,hb,h5]⟩
end
section
variable {P:Program} {W:World} {ev:Array Event} {r cl:Nat} {es:Array MapEntry} {T kt et:TypeId}
theorem QBz {W:World} {ev:Array Event} {r:Nat} {o:Obj} (hb:W.heap[r]?=some o) (hr:∀ cs e fz,o≠.cells cs e fz) (hc:o.isChan=false):(getObj r).runT P W ev=(.ok o W,ev.push ⟨.obj r,false,false⟩):=by
 show (Sem.getObj r .pure).runT P W ev=_
 grind [absurd,Sem.runT]
theorem QCc {W:World} {ev:Array Event} {r:Nat} {o o':Obj} (hb:W.heap[r]?=some o) (hr:∀ cs e fz,o≠.cells cs e fz) (hc:o'.isChan=false):(setObj r o').runT P W ev=(.ok () { W with heap:=W.heap.setIfInBounds r o' },ev.push ⟨.obj r,true,false⟩):=by
 show (Sem.setObj r o' (.pure ())).runT P W ev=_
 grind [Sem.runT]
theorem Qoo (hb:W.heap[r]?=some (.map es cl)):(getObj r).runT P W ev=(.ok (.map es cl) W,ev.push ⟨.obj r,false,false⟩):=by
 show (Sem.getObj r .pure).runT P W ev=_;simp only [Sem.runT,hb];rfl
theorem QCd {o:Obj} (ho:o.isChan=false) (hb:W.heap[r]?=some (.map es cl)):(setObj r o).runT P W ev=(.ok () { W with heap:=W.heap.setIfInBounds r o },ev.push ⟨.obj r,true,false⟩):=by
 show (Sem.setObj r o (.pure ())).runT P W ev=_
 grind [Sem.runT]
theorem Qtn {k:ByteArray} (hk:P.underlying kt=some .string) (e:Bool) (n:Nat):(Instr.checkKey e (n+1) kt (.string k)).runT P W ev=(.ok () W,ev):=by
 unfold Instr.checkKey;exact (Xg (ZD hk)).trans rfl
theorem Qom {k:Value} {l:List MapEntry} {a:Option (Nat×Value)} (hk:P.underlying kt=some .string) (h:Instr.findNow .string k l 0=some a):(Instr.findKey kt k l).runT P W ev=(.ok a W,ev):=by
 unfold Instr.findKey;refine (Xg (ZD hk)).trans ?_;rw [h];rfl
theorem QTe {z:Value} (hz:(P.info? et).bind (·.zero)=some z):(zeroValue et).runT P W ev=(.ok z W,ev):=by
 cases hi:P.info? et with
 | none=>grind
 | some i =>
  simp_all [Xg,typeInfo,runT,trans,zeroValue,some]
theorem QSz {k:ByteArray}:(Instr.keyThatStays (.string k) (.string k)).runT P W ev=(.ok (.string k) W,ev):=by
 have h:Instr.sameBits 10000 (.string k) (.string k)=true:=sameBits_self (d:=.string) (k:=.string k) trivial _;simp_all [if_pos,Instr.keyThatStays]
end
section
variable {P:Program} [JD P] {n:Nat} {ρ:Env} {w w':World}
variable {d:Option Nat} {t T U kt et:TypeId} {p:String} {af:Array Edge} {gu:Option (Nat×Bool)} {x y z:Operand} {b:Nat} {ks:List ByteArray} {k:ByteArray}
theorem Qyc {α β:Type} {m:Sem α} {f:α->β} (h:Fr P m w):Fr P (m >>= fun a=>Pure.pure (f a)) w:=by
 intro w1 r F Z W es es' r' w' hA hv hr;rw [show (m >>= fun a=>Pure.pure (f a))=m.bind (fun a=>Pure.pure (f a)) from rfl,Go.Sem.runT_bind'] at hr;generalize hx:m.runT P w1 es=q at hr;obtain ⟨q1,q2⟩:=q;cases q1 with
 | halt h' w2=>cases hr
 | ok a w2 =>
  have hr:((.ok (f a) w2:Result β),q2)=(.ok r' w',es'):=hr;cases hr;obtain ⟨F',W',us,h1,h2⟩:=h w1 r hA hv hx;refine ⟨F',W',us,?_,h2⟩;simp_all
theorem Qlm {K:Value->World->Prop} (h:∀ b w',w.heap.size<=b->Ext w w'->MapAt w' b []->K (.map (some b)) w'):Eff P ⟨d,.makeMap T none,t,p,af,gu⟩ n ρ w K:=by
 refine Ju (Yn (.bnd (Qkk _ rfl) fun _=>.pure _)) fun w1 e1=>?_;have hr:(execOp (Qo n ρ) ⟨d,.makeMap T none,t,p,af,gu⟩).run P w1=.ok (.value (.map (some w1.heap.size))) (w1.alloc (.map #[] 0)):=by rfl
 rw [hr];have hh:=heap_alloc w1 (.map #[] 0);have he:Ext w1 (w1.alloc (.map #[] 0)):=Ext.alloc w1 _;exact h _ _ e1.size (e1.trans he) ⟨#[],0,hh.1,rfl⟩
theorem QCa {W:World} {ev:Array Event} {es:Array MapEntry} {cl:Nat} (hu:P.underlying T=some (.map kt et)) (hk:P.underlying kt=some .string) (hz:(P.info? et).bind (·.zero)=some (.bool false))
  (hb:W.heap[b]?=some (.map es cl)) (he:es.toList.map (fun e=>(e.key,e.val))=ks.map fun k=>(Value.string k,Value.bool true)) :
  (Instr.lookup T (.map (some b)) (.string k) false).runT P W ev=(.ok (.bool (YQ ks k)) W,ev.push ⟨.obj b,false,false⟩):=by
 unfold Instr.lookup;refine (Xg (ZD hu)).trans ?_;dsimp only;refine (Xg (Xg (Qoo hb))).trans ?_;refine (Xg (Qtn hk _ _)).trans ?_;rcases Qre (k:=k) es.toList ks 0 he with ⟨h1,j,e,h2,h3,h4,h5⟩ | ⟨h1,h2⟩
 ·refine (Xg (Qom hk h2)).trans ?_;rw [memK_iff.2 h1];rfl
 ·refine (Xg (Qom hk h2)).trans ?_;dsimp only;refine (Xg (QTe hz)).trans ?_;simp_all [YQ,false,Bool.eq_false_iff,memK_iff]
theorem Qkt (hu:P.underlying T=some (.map kt et)) (hk:P.underlying kt=some .string) (hz:(P.info? et).bind (·.zero)=some (.bool false)) (hx:Qo n ρ x=.map (some b)) (hy:Qo n ρ y=.string k) (hm:MapAt w b ks) :
  Yl P n ρ ⟨d,.lookup T x y false,t,p,af,gu⟩ w (.bool (YQ ks k)):=by
 have hE:execOp (Qo n ρ) ⟨d,.lookup T x y false,t,p,af,gu⟩=(Instr.lookup T (.map (some b)) (.string k) false >>= fun v=>Pure.pure (Next.value v)):=by grind [execOp]
 refine ⟨?_,fun w1 r=>?_⟩
 ·rw [hE];refine Qyc fun w1 r=>?_;obtain ⟨es,cl,h1,h2⟩:=hm.ext r.ext;exact Qrg ⟨h1,(by simp),(by intro e;cases e)⟩ fun W ev hW=>QCa hu hk hz hW h2
 ·obtain ⟨es,cl,h1,h2⟩:=hm.ext r.ext;rw [<-Sem.runT_fst P _ w1 #[],hE,Xg (QCa hu hk hz h1 h2)];rfl
theorem QCe {W:World} {ev:Array Event} {es:Array MapEntry} {cl:Nat} (hu:P.underlying T=some (.map kt et)) (hk:P.underlying kt=some .string)
  (he:es.toList.map (fun e=>(e.key,e.val))=ks.map fun k=>(Value.string k,Value.bool true)) :
  ∃ es' cl',es'.toList.map (fun e=>(e.key,e.val))=(ZM ks k).map (fun k=>(Value.string k,Value.bool true))/\∀ W ev,W.heap[b]?=some (.map es cl) ->
  (Instr.mapUpdate T (.map (some b)) (.string k) (.bool true)).runT P W ev=(.ok () { W with heap:=W.heap.setIfInBounds b (.map es' cl') },(ev.push ⟨.obj b,false,false⟩).push ⟨.obj b,true,false⟩):=by
 rcases Qre (k:=k) es.toList ks 0 he with ⟨h1,j,e,h2,h3,h4,h5⟩ | ⟨h1,h2⟩
 ·have hj:es[j]?=some e:=by grind
  refine ⟨es.modify j fun e=>{ e with key:=.string k,val:=.bool true },cl,?_,fun W ev hb=>?_⟩
  ·rw [ZM,if_pos (memK_iff.2 h1),<-he];apply List.ext_getElem?
   grind
  ·unfold Instr.mapUpdate;refine (Xg (ZD hu)).trans ?_;dsimp only;refine (Xg (Qoo hb)).trans ?_;dsimp only;refine (Xg (Qtn hk _ _)).trans ?_;refine (Xg (Qom hk h2)).trans ?_;simp only [Nat.zero_add,hj,Option.map_some,Option.getD_some,h4];refine (Xg QSz).trans ?_;exact QCd rfl hb
 ·refine ⟨es.push { key:=.string k,val:=.bool true,born:=cl },cl+1,?_,fun W ev hb=>?_⟩
  ·simp_all [ZM,if_neg,memK_iff]
  ·unfold Instr.mapUpdate;refine (Xg (ZD hu)).trans ?_;dsimp only;refine (Xg (Qoo hb)).trans ?_;dsimp only;refine (Xg (Qtn hk _ _)).trans ?_;refine (Xg (Qom hk h2)).trans ?_;exact QCd rfl hb
theorem Qfs {K:Value->World->Prop} (hu:P.underlying T=some (.map kt et)) (hk:P.underlying kt=some .string) (hx:Qo n ρ x=.map (some b)) (hy:Qo n ρ y=.string k) (hv:Qo n ρ z=.bool true) (hm:MapAt w b ks)
  (h:∀ w',Chg [.pointer (some ⟨b,0,none⟩)] w w'->MapAt w' b (ZM ks k)->K undef w'):Eff P ⟨d,.mapUpdate T x y z,t,p,af,gu⟩ n ρ w K:=by
 have hE:execOp (Qo n ρ) ⟨d,.mapUpdate T x y z,t,p,af,gu⟩=(Instr.mapUpdate T (.map (some b)) (.string k) (.bool true) >>= fun _=>Pure.pure Next.skip):=by grind [execOp]
 refine ⟨?_,.inr fun w1 r=>?_⟩
 ·rw [hE];refine Qyc fun w1 r=>?_;obtain ⟨es,cl,h1,h2⟩:=hm.ext r.ext;obtain ⟨es',cl',_,h4⟩:=QCe (P:=P) (W:=w1) (ev:=#[]) (b:=b) (k:=k) (cl:=cl) hu hk h2;exact Qhz ⟨h1,(by simp),(by intro e;cases e)⟩ (by simp) h4
 ·obtain ⟨es,cl,h1,h2⟩:=hm.ext r.ext;obtain ⟨es',cl',h3,h4⟩:=QCe (P:=P) (W:=w1) (ev:=#[]) (b:=b) (k:=k) (cl:=cl) hu hk h2;rw [<-Sem.runT_fst P _ w1 #[],hE,Xg (h4 w1 _ h1)];have hlt:b < w1.heap.size:=Ji h1;refine h _ (r.ext.mono (fun _ h=>by cases h) |>.trans ⟨rfl,rfl,rfl,by simp,fun i hi hA=>?_⟩) ⟨es',cl',by simp [hlt],h3⟩;have hne:b≠i:=fun e=>hA _ (Ed.2 rfl) (by simp [Qt,e])
  simp_all
theorem Qpp {aT:Array TypeId} (ha:aT[0]?=some T) (hu:P.underlying T=some (.map kt et)) (hx:Qo n ρ x=.map (some b)) (hm:MapAt w b ks) :
    Yl P n ρ ⟨d,.call ⟨.builtin .len,#[x],aT⟩,t,p,af,gu⟩ w (goInt ks.length):=by
  have hE : ∀ (W : World) (ev : Array Event) (es : Array MapEntry) (cl : Nat), W.heap[b]? = some (.map es cl) -> es.toList.map (fun e => (e.key, e.val)) = ks.map (fun k => (Value.string k, Value.bool true)) ->
      (execOp (Qo n ρ) ⟨d,.call ⟨.builtin .len,#[x],aT⟩,t,p,af,gu⟩).runT P W ev=(.ok (.value (goInt ks.length)) W,ev.push ⟨.obj b,false,false⟩):=by
    intro W ev es cl hb he;have hl:es.size=ks.length:=by simpa using congrArg List.length he
    have hg:(Sem.getObj b .pure).runT P W ev=_:=Qoo (P:=P) (ev:=ev) hb;rw [Sem.runT_eq] at hg;obtain ⟨g1,g2⟩:=Prod.mk.inj hg;simp [execOp,resolve,invoke,builtin,Builtin.len_,ha,goInt,getObj,hx,hu,g1,g2,hl,underlying,Result.andThen]
  refine ⟨fun w1 r=>?_,fun w1 r=>?_⟩
  · obtain ⟨es,cl,h1,h2⟩:=hm.ext r.ext;exact Qrg ⟨h1,(by simp),(by intro e;cases e)⟩ fun W ev hW=>hE W ev es cl hW h2
  · obtain ⟨es,cl,h1,h2⟩:=hm.ext r.ext;rw [<-Sem.runT_fst P _ w1 #[],hE w1 _ es cl h1 h2]
end
end Go.Gw

end
section
set_option linter.unusedSectionVars false
set_option linter.unusedVariables false
namespace Go.Gw
open Go
section
variable {P:Program} {α β:Type} {w:World}
theorem EvOk.more {F F' Z:Nat->Prop} {e:Event} (h:EvOk F Z e) (hF:∀ b,F b->F' b):EvOk F' Z e:=h.imp (fun ⟨a,h1,h2,h3,h4⟩=>⟨a,h1,h2,hF _ h3,h4⟩) id
theorem Qfw {m:Sem α} {f:α->Sem β} (h:Y9 P m w) (hf:∀ a w',m.run P w=.ok a w'->Y9 P (f a) w'):Y9 P (m >>= f) w:=by
 intro F Z W es es' r w' hA hv hr;rw [show (m >>= f)=m.bind f from rfl,Go.Sem.runT_bind'] at hr;generalize hx:m.runT P w es=x at hr;obtain ⟨x1,x2⟩:=x;cases x1 with
 | halt h w1=>cases hr
 | ok a w1 =>
  have hr:(f a).runT P w1 x2=(.ok r w',es'):=hr;obtain ⟨F1,W1,us1,k1,k2,k3,k4,k5⟩:=h hA hv hx;obtain ⟨F2,W2,us2,l1,l2,l3,l4,l5⟩:=hf a w1 (by simp_all) k2.agr k3 hr;refine ⟨F2,W2,us1++us2,?_,k2.trans l2,l3,by simp_all,fun e he=>?_⟩
  ·simp_all
  ·rcases Array.mem_append.1 he with he | he
   ·exact (k5 e he).more l2.more
   simp_all
theorem Qls (a:α):Y9 P (Pure.pure a:Sem α) w:=(Tame.pure a).fr0
theorem Qqb {F Z:Nat->Prop} {w W:World} (h:Agr F Z w W) {b:Nat} {cs:Array Value} {e:TypeId} {fz:Nat×Nat} (hb:w.heap[b]?=some (.cells cs e fz)) (h0:0 < cs.size):F b:=Classical.byContradiction fun hn=>by
 have h2:=Option.some.inj (hb.symm.trans (h.hid b hn (Ji hb)));cases h2
theorem QFv {F Z:Nat->Prop} {w W:World} (h:Agr F Z w W) {b:Nat} {cs:Array Value} {e:TypeId} (hb:w.heap[b]?=some (.cells cs e (0,0))) (h0:0 < cs.size):F b/\¬ Z b/\W.heap[b]?=some (.cells cs e (0,0)):=by
 have hF:=Qqb h hb h0;have hz:¬ Z b:=fun hz=>by
  obtain ⟨cs',e',fz,h1,_⟩:=h.shr b hF hz
  grind
 exact ⟨hF,hz,(h.own b hF hz).trans hb⟩
theorem QJz {b:Nat} {cs:Array Value} {e:TypeId} {fz:Nat×Nat} (hb:w.heap[b]?=some (.cells cs e fz)) (h0:0 < cs.size):Y9 P (shape b) w:=by
 intro F Z W es es' r w' hA hv hr;have hF:=Qqb hA hb h0;have hW:∃ fz',W.heap[b]?=some (.cells cs e fz'):=by
  rcases Classical.em (Z b) with hz | hz
  ·obtain ⟨cs',e',fz',h1,h2⟩:=hA.shr b hF hz;simp_all
  ·exact ⟨fz,(hA.own b hF hz).trans hb⟩
 obtain ⟨fz',hW⟩:=hW;have h1:∀ (W:World) (fz:Nat×Nat) (es:Array Event),W.heap[b]?=some (.cells cs e fz)->(shape b).runT P W es=(.ok (some (e,cs.size)) W,es):=fun W fz es hW=>by
  simp_all [Sem.runT,World.shape?,Sem.shape,pure,runT]
 rw [h1 w fz es hb] at hr;cases hr;exact ⟨F,W,#[],h1 W fz' es hW,⟨hA,fun _ x=>x,fun _ x=>.inl x,Ei _,fun _ _ _=>rfl,rfl,rfl,rfl⟩,hv,by simp,by simp⟩
theorem QTn {b:Nat} {cs:Array Value} {e:TypeId} {fz:Nat×Nat} (hb:w.heap[b]?=some (.cells cs e fz)):(shape b).run P w=.ok (some (e,cs.size)) w:=by
 simp_all [Sem.run,World.shape?,Sem.shape,pure]
theorem Qdb {w:World} {a:Addr} {m b:Nat} (hm:m≠0):(w.freeze a m).heap[b]?=if b=a.block then (w.heap[b]?).map (fun o=>match o with | .cells c elem (lo,hi)=>.cells c elem (if lo == hi then (a.off,a.off+m) else (min lo a.off,max hi (a.off+m))) | o=>o) else w.heap[b]?:=by
 unfold World.freeze
 grind
theorem Qjz {w:World} {a:Addr} {m:Nat}:(w.freeze a m).heap.size=w.heap.size:=by grind [World.freeze]
theorem same_freeze {w:World} {a:Addr} {m:Nat}:(w.freeze a m).tape=w.tape/\(w.freeze a m).drawn=w.drawn/\(w.freeze a m).os=w.os/\(w.freeze a m).output=w.output:=by grind [World.freeze]
theorem QFt {F Z:Nat->Prop} {w W:World} (h:Agr F Z w W) {a:Addr} {m:Nat} (hm:m≠0) (hF:F a.block) (hz:¬ Z a.block):Agr F Z (w.freeze a m) (W.freeze a m) where
 tape:=by rw [same_freeze.1,same_freeze.1,h.tape]
 drawn:=by rw [same_freeze.2.1,same_freeze.2.1,h.drawn]
 os:=by rw [same_freeze.2.2.1,same_freeze.2.2.1,h.os]
 output:=by rw [same_freeze.2.2.2,same_freeze.2.2.2,h.output]
 size:=by rw [Qjz,Qjz,h.size]
 own:=fun b hb hzb=>by rw [Qdb hm,Qdb hm,h.own b hb hzb]
 shr:=fun b hb hzb=>by
  have hne:b≠a.block:=fun e=>hz (e▸hzb)
  rw [Qdb hm,Qdb hm,if_neg hne,if_neg hne];exact h.shr b hb hzb
 hid:=fun b hb hlt=>by
  have hne:b≠a.block:=fun e=>hb (e▸hF)
  rw [Qdb hm,if_neg hne];exact h.hid b hb (by grind [Qjz])
 zf:=h.zf
theorem QQn {w:World} {a:Addr} {m:Nat} (hm:m≠0) (h:NoView w):NoView (w.freeze a m):=fun b x u e=>by
 rw [Qdb hm] at e;split at e
 ·cases hb:w.heap[b]? with
  | none=>simp_all
  | some o =>
   rw [hb] at e;cases o<;>simp at e
   rename_i x' u';exact h b x' u' hb
 ·exact h b x u e
theorem QJy {a:Addr} {m:Nat} {cs:Array Value} {e:TypeId} (hm:m≠0) (hb:w.heap[a.block]?=some (.cells cs e (0,0))) (h0:0 < cs.size):Y9 P (freeze a m) w:=by
 intro F Z W es es' r w' hA hv hr;obtain ⟨hF,hz,hW⟩:=QFv hA hb h0;have h1:∀ (W:World) (es:Array Event),(freeze a m).runT P W es=(.ok () (W.freeze a m),es):=fun W es=>rfl
 rw [h1] at hr;cases hr;refine ⟨F,W.freeze a m,#[],h1 W es,⟨QFt hA hm hF hz,fun _ x=>x,fun _ x=>.inl x,by rw [Qjz];omega,fun b hb hk=>?_,same_freeze.1,same_freeze.2.2.1,same_freeze.2.2.2⟩,QQn hm hv,by simp,by simp⟩;rw [Qdb hm,if_neg (fun e=>by simp_all)]
end
end Go.Gw

end
section
set_option linter.unusedSectionVars false
set_option linter.unusedVariables false
namespace Go.Gw
open Go
def Qcg (v:Value):Prop:=∀ a m,v≠.slice (some a) m 0
section
variable {P:Program} [JD P] {n:Nat} {ρ:Env} {w w':World}
variable {d:Option Nat} {t T U I:TypeId} {p:String} {af:Array Edge} {gu:Option (Nat×Bool)} {x y z:Operand}
omit [JD P] in
theorem QVh {e:TypeId} (hu:P.underlying T=some (.slice e)) (hU:P.underlying U=some .string) (t:TypeId) (v x:Value):Tame P (Builtin.append_ #[T,U] t #[v,x]):=by
 unfold Builtin.append_;dsimp only [Eo,List.getElem?_cons_zero,List.getElem?_cons_succ];refine .und hu ?_;dsimp only;split
 ·refine .bnd (JU _) fun size=>.und hU ?_;simp only [Bool.false_eq_true,if_false,Bool.not_false,if_true,false_or,pure_bind];refine .bnd (Qup _) fun n=>?_;refine Qbb (.bnd (Qdm _ _ _) fun new=>?_) (.bnd (Qbp _) fun i1=>Qbb (.bnd (Qcj _) fun _=>?_) ?_)
  ·split<;>first | exact .bnd (Qfb _ _ _) fun _=>.pure _ | exact .pure _
  all_goals
   refine .bnd (Qbp _) fun i2=>Qbb (.bnd (.doom _ (Qxd fun b=>?_)) fun _=>?_) ?_
   ·simp
   all_goals exact .bnd (Qez _) fun _=>.bnd (Qbp _) fun _=>.bnd (Qki _) fun _=>.bnd (Qdm _ _ _) fun _=>.bnd (Qdm _ _ _) fun _=>.bnd (Qfd _) fun _=>.bnd (Qfa _ _) fun _=>.pure _
 ·exact YS _
omit [JD P] in
theorem QUu (s:ByteArray):Lib.strCells s=(JX (bl s)).map (Value.int .u8):=by
 show Ep (fun b:UInt8=>Value.int .u8 b.toNat) s.data.toList=Ep (Value.int .u8) (Ep (fun b:UInt8=>((b.toNat:Nat):Int)) s.data.toList);simp
omit [JD P] in
theorem QIb (L:List Value) (w:World) (s:ByteArray):Elems L w (Lib.strCells s) (bl s):=by
 refine ⟨by rw [Lib.strCells_length,ZV];exact (Eb _).symm,fun i x hx=>?_⟩;show ((Lib.strCells s).drop (i * 1)).take 1=[.int .u8 x];have h1:(Lib.strCells s)[i]?=some (.int .u8 x):=by
  rw [QUu,List.getElem?_map];show Option.map (Value.int .u8) ((bl s)[i]?)=_;exact congrArg (Option.map (Value.int .u8)) hx
 rw [Eb]
 grind [Ej,Ea]
omit [JD P] in
theorem QTg {e:TypeId} {zz:Value} {L:List Value} {v:Value} {xs:List U8} {s:ByteArray} (hu:P.underlying T=some (.slice e)) (hU:P.underlying U=some .string) (hi:EInfo P e 1 1 zz) (hz:zz=.int .u8 0)
    (hown:Own e (v::L) w v xs) (hrm:Qcg v) (hb:xs.length+s.size<=140737488355328) (hm:xs.length+s.size<=maxLen) :
    ∃ v' w',(Builtin.append_ #[T,U] t #[v,.string s]).run P w=.ok v' w'/\Chg [v] w w'/\(∀ b,Qt v'=some b->Qt v=some b\/w.heap.size<=b)/\Own e (v'::L) w' v' (xs++bl s)/\Qcg v':=by
  subst hz;obtain ⟨i,h1,h2,h3,h4,h5,h6⟩:=hi.ex;obtain ⟨cells,ho,hel⟩:=hown;obtain ⟨v',w',hr,ho',hg,hnil⟩:=Lib.run_append_own_string (P:=P) w 0 T U t e i hu hU h1 h4 h2 h3 v xs.length cells ho s hm hb (El _);have hc:Chg [v] w w':=Chg.of_grown hg;have hlen:(xs++bl s).length=xs.length+s.size:=by rw [List.length_append,ZV]
  have key:(∀ b,Qt v'=some b->Qt v=some b\/w.heap.size<=b)/\Qcg v':=by
    rcases ho.2 with ⟨hh,h0⟩ | ⟨g,cap',cur',hh,_,hg',h4',hcm',hcs,htake⟩
    · have hown2:w.ownsRow w.heap.size e 1 v xs.length cells:=⟨ho.1,.inl ⟨hh,h0⟩⟩;obtain ⟨v2,w2,hr2,ho2,_,hnil2⟩:=Lib.run_append_own_string (P:=P) w w.heap.size T U t e i hu hU h1 h4 h2 h3 v xs.length cells hown2 s hm hb (Ei _);rw [hr] at hr2;cases hr2;refine ⟨fun k hk=>?_,fun a m hv=>?_⟩
      · have hw : v'.ownBlock = some k := by
          rcases ho2.2 with ⟨hh,_⟩ | ⟨g2,_,_,hh,_⟩<;>subst hh
          · cases hk
          · exact hk
        exact .inr (ho2.lt k hw).1
      · rcases ho2.2 with ⟨hh',h0'⟩ | ⟨g2,cap2,cur2,hh',_,_,h42,_⟩
        · simp_all
        simp_all
    · subst hh;have hcap:cap'≠0:=fun e=>hrm ⟨g,0,none⟩ xs.length (by rw [e])
      by_cases hroom:xs.length+s.size<=cap'
      · have hcs':cur'.size=cap':=by simpa [Rep.n] using hcs
        have hr2:=Lib.run_append_room_string (P:=P) w T U t e i hu hU h1 h2 g xs.length cap' cur' hg' s hroom (by omega);rw [hr] at hr2;cases hr2;exact ⟨fun k hk=>.inl hk,fun a m hv=>by grind⟩
      · have holds:∀ j u,cells[j]?=some u->w.cell? ((⟨g,0,none⟩:Addr).add j)=some u:=World.ownsRow.cells ho (g:=g) rfl;have hr2:=Lib.run_append_grow_string (P:=P) w T U t e i _ hu hU h1 h4 ⟨g,0,none⟩ xs.length cap' cells (by rw [h2];exact ho.1) holds s (by omega) (by omega) (growslice_fits (by omega) (by grind));rw [hr] at hr2;cases hr2;refine ⟨fun k hk=>.inr ?_,fun a m hv=>?_⟩
        · grind [Qt]
        grind [grownCap_ge]
  refine ⟨v',w',hr,hc,key.1,⟨cells++Lib.strCells s,?_,?_⟩,key.2⟩
  · rw [hlen];exact ho'
  · exact (hel.step (Stepp.swap hc key.1)).append (QIb _ _ _)
theorem QHj {e:TypeId} {zz:Value} {L:List Value} {v:Value} {xs zs:List U8} {s:ByteArray} {K:Value->World->Prop} {aT:Array TypeId} (hu:P.underlying T=some (.slice e)) (hU:P.underlying U=some .string) (hi:EInfo P e 1 1 zz) (hz:zz=.int .u8 0)
  (hT:aT=#[T,U]) (hx:Qo n ρ x=v) (hy:Qo n ρ y=.string s) (hown:Own e (v::L) w v xs) (hrm:Qcg v) (hm:app xs (bl s)=some zs)
  (h:∀ v' w',Chg [v] w w'->(∀ b,Qt v'=some b->Qt v=some b\/w.heap.size<=b)->Own e (v'::L) w' v' zs->Qcg v'->K v' w'):Eff P ⟨d,.call ⟨.builtin .append,#[x,y],aT⟩,t,p,af,gu⟩ n ρ w K:=by
 subst hT;obtain ⟨hb,rfl⟩:xs.length+s.size<=1073741824/\zs=xs++bl s:=by
  grind [ZV,Option.some.inj,app]
 have e0:execOp (Qo n ρ) ⟨d,.call ⟨.builtin .append,#[x,y],#[T,U]⟩,t,p,af,gu⟩=(Builtin.append_ #[T,U] t #[v,.string s] >>= fun v=>Pure.pure (Next.value v)):=by
  simp [execOp,resolve,invoke,builtin,hx,hy]
 refine Ju (by grind [Yn,QVh]) fun w1 e1=>?_;rw [e0];obtain ⟨v',w',hr,hc,hbl,ho,hrm'⟩:=QTg (P:=P) (t:=t) hu hU hi hz (hown.step (Stepp.ext e1) e1 (fun _ _=>Ec _)) hrm (s:=s) (by omega) (by unfold maxLen;omega);simp only [Sem.run_bind,hr,Result.andThen,Sem.run_pure,effR];exact h v' w' ((e1.mono (fun _ h=>by cases h)).trans hc) (fun b hb=>(hbl b hb).imp id fun h=>Eg e1.size h) ho hrm'
def sdp:Value->Value
 | .slice (some a) _ _=>.pointer (some a)
 | _=>.pointer none
omit [JD P] in
theorem Own.nilOr {α:Type} [Rep α] {e:TypeId} {L:List Value} {v:Value} {xs:List α} (h:Own e L w v xs):v=.slice none 0 0/\xs=[]\/∃ g cap cur,v=.slice (some ⟨g,0,none⟩) xs.length cap/\w.heap[g]?=some (.cells cur e (0,0))/\xs.length<=cap/\cap<=maxLen/\cur.size=cap * Rep.n α/\Elems L w (cur.toList.take (xs.length * Rep.n α)) xs:=by
 obtain ⟨cells,ho,hel⟩:=h;rcases ho.2 with ⟨hh,h0⟩ | ⟨g,cap',cur',hh,_,hg',h4',hcm',hcs,htake⟩
 ·simp_all
 grind
theorem QYh {e:TypeId} {L:List Value} {v:Value} {xs:List U8} {aT:Array TypeId} (hown:Own e L w v xs) (hrm:Qcg v) (hx:Qo n ρ x=v):Yl P n ρ ⟨d,.call ⟨.builtin .unsafeSliceData,#[x],aT⟩,t,p,af,gu⟩ w (sdp v):=Yc fun w es=>by
 rcases hown.nilOr with ⟨rfl,_⟩ | ⟨g,cap,cur,rfl,_⟩
 ·have hd:∀ ts,Builtin.unsafeSliceData_ ts t #[.slice none 0 0]=Pure.pure (.pointer none):=fun _=>rfl
  simp [execOp,resolve,invoke,builtin,hx,hd,sdp]
 ·have:cap≠0:=fun h=>hrm _ _ (by rw [h])
  obtain ⟨k,rfl⟩:∃ k,cap=k+1:=⟨cap - 1,by omega⟩;have hd:∀ ts,Builtin.unsafeSliceData_ ts t #[.slice (some ⟨g,0,none⟩) xs.length (k+1)]=Pure.pure (.pointer (some ⟨g,0,none⟩)):=fun _=>rfl
  simp [execOp,resolve,invoke,builtin,hx,hd,sdp]
omit [JD P] in
theorem QVr (a:Addr):∀ (m:Nat) (acc:ByteArray),Tame P (loadBytes a acc m):=by
 intro m
 induction m generalizing a with
 | zero=>intro acc;exact .pure _
 | succ m ih =>
  intro acc;unfold loadBytes;refine .bnd (Quq _) fun v=>?_
  grind [YS]
omit [JD P] in
theorem QCj:∀ (l:List Int) (a:Addr) (acc:ByteArray),(∀ j x,l[j]?=some x->w.cell? (a.add j)=some (.int .u8 x)) ->
  (loadBytes a acc l.length).run P w=.ok ⟨acc.data++(l.map fun n=>UInt8.ofNat n.toNat).toArray⟩ w
 | [],a,acc,_=>by rfl
 | x::l,a,acc,h=>by
  have h0:w.cell? a=some (.int .u8 x):=by
   have:=h 0 x rfl;trivial
  have ih:=QCj l (a.add 1) (acc.push (UInt8.ofNat x.toNat)) (fun j y hy=>by
   have:=h (j+1) y (by grind)
   grind [Addr.add])
  simp_all [ByteArray.push,ByteArray.ext,Eq.trans,List.length_cons,loadBytes,Sem.run_bind,run_load,Result.andThen]
omit [JD P] in
theorem QWl (pt it ty:TypeId) (q:Option Addr):Builtin.unsafeString_ #[pt,it] ty #[.pointer q,.int .i64 0]=Pure.pure (.string .empty):=by
 cases q<;>rfl
omit [JD P] in
theorem QEd (pt it ty:TypeId) (a:Addr) (l:Nat) (h0:l≠0) (h1:l<=9223372036854775807):Builtin.unsafeString_ #[pt,it] ty #[.pointer (some a),.int .i64 l] =
    (elemOf pt >>= fun e => variablesAt a e l >>= fun ok => if ok = true then loadBytes a .empty l >>= fun s => freeze a l >>= fun _ => Pure.pure (.string s) else unsupported (.unsafePointer "String: not so many bytes at ptr")) := by
  have hdef : Builtin.unsafeString_ #[pt, it] ty #[.pointer (some a), .int .i64 l] =
      (do
        let n <-asInt (.int .i64 l)
        if n < 0 then runtimePanic (.error "unsafe.String: len out of range")
        if n > IntKind.i64.max then unsupported (.unsafePointer "String: a length above the largest int")
        if n=0 then Pure.pure (.string .empty)
        else if <-variablesAt a (<-elemOf pt) n.toNat then do
          let s <-loadBytes a .empty n.toNat
          freeze a n.toNat
          Pure.pure (.string s)
        else unsupported (.unsafePointer "String: not so many bytes at ptr")) := rfl
  have hmax:IntKind.i64.max=9223372036854775807:=rfl;have g1:¬ (l:Int) < 0:=by omega
  have g2:¬ (l:Int) > IntKind.i64.max:=by omega
  simp_all [asInt,asIntOf,pure_bind,if_neg,Ee,Int]
omit [JD P] in
theorem QCl {e it ty pt:TypeId} {zz:Value} {L:List Value} {v:Value} {xs:List U8} (hp:P.underlying pt=some (.pointer e)) (hi:EInfo P e 1 1 zz) (hown:Own e L w v xs) :
    Y9 P (Builtin.unsafeString_ #[pt,it] ty #[sdp v,.int .i64 xs.length]) w/\∃ w',(Builtin.unsafeString_ #[pt,it] ty #[sdp v,.int .i64 xs.length]).run P w=.ok (.string (ZO xs)) w'/\Chg [v] w w':=by
  by_cases h0:xs.length=0
  · have hx:xs=[]:=List.eq_nil_of_length_eq_zero h0;have h1:∃ q,sdp v=.pointer q:=by
      rcases hown.nilOr with ⟨rfl,_⟩ | ⟨g,cap,cur,rfl,_⟩
      · exact ⟨_,rfl⟩
      · exact ⟨_,rfl⟩
    obtain ⟨q,hq⟩:=h1;rw [hq,hx];rw [show ((([]:List U8).length:Nat):Int)=0 from rfl,QWl];exact ⟨Qls _,w,rfl,Chg.refl _ _⟩
  · rcases hown.nilOr with ⟨_,hx⟩ | ⟨g,cap,cur,rfl,hg,hle,hcm,hsz,hel⟩
    · simp_all
    have hsz:cur.size=cap:=by rw [hsz];exact Eb _
    have hel:Elems L w (cur.toList.take xs.length) xs:=by
      simp_all [Rep.n,U8,Eb]
    have hpos:0 < cur.size:=by omega
    obtain ⟨i,i1,i2,i3,i4,i5,i6⟩:=hi.ex;have hc1:P.cellsOf e=1:=by simp [Program.cellsOf,i1,i2]
    have h63:xs.length<=9223372036854775807:=by grind [maxLen]
    have hcells:=Qxm hel;have hcell:∀ j y,(JX xs)[j]?=some y->w.cell? ((⟨g,0,none⟩:Addr).add j)=some (.int .u8 y):=fun j y hy=>by
      have h1:(cur.toList.take xs.length)[j]?=some (.int .u8 y):=by grind
      grind [World.cell?,YK,List.getElem?_take_of_lt,Ea]
    have hlies:=Lib.liesAt_bytes (P:=P) hc1 (cur.size / P.cellsOf e) xs.length (by grind);have e1:(elemOf pt).run P w=.ok e w:=by simp [elemOf,run_underlying hp]
    have e2:(variablesAt ⟨g,0,none⟩ e xs.length).run P w=.ok true w:=by simp [variablesAt,World.shape?,hg,hlies]
    have e3:(loadBytes ⟨g,0,none⟩ .empty xs.length).run P w=.ok (ZO xs) w:=by
      have:=QCj (P:=P) (JX xs) ⟨g,0,none⟩ .empty hcell;rw [QBd];refine Eq.trans this ?_;simp
    refine ⟨?_,w.freeze ⟨g,0,none⟩ xs.length,?_,?_⟩
    · show Y9 P (Builtin.unsafeString_ #[pt,it] ty #[.pointer (some ⟨g,0,none⟩),.int .i64 xs.length]) w;rw [QEd _ _ _ _ _ h0 h63];have hsh:Y9 P (shape g) w:=QJz hg hpos;have hva:Y9 P (variablesAt ⟨g,0,none⟩ e xs.length) w:=by
        unfold variablesAt;refine Qfw (Tame.program _ (.pure _)).fr0 fun P' w1 hr1=>?_;cases hr1
        grind [Qls,QTn,Qfw]
      have hea:Y9 P (elemOf pt) w:=(QDm _).fr0;have hla:Y9 P (loadBytes ⟨g,0,none⟩ .empty xs.length) w:=(QVr _ _ _).fr0;have hfa:Y9 P (freeze ⟨g,0,none⟩ xs.length) w:=QJy (a:=⟨g,0,none⟩) h0 hg hpos;refine @Qfw P _ _ w _ _ hea ?_;intro e' w1 hr1;rw [e1] at hr1;cases hr1;refine @Qfw P _ _ w _ _ hva ?_;intro ok w1 hr1;rw [e2] at hr1;cases hr1;rw [if_pos rfl]
      grind [Qls,Qfw]
    · show (Builtin.unsafeString_ #[pt,it] ty #[.pointer (some ⟨g,0,none⟩),.int .i64 xs.length]).run P w=_;rw [QEd _ _ _ _ _ h0 h63];simp only [Sem.run_bind,e1,e2,e3,Result.andThen,if_true];rfl
    · refine ⟨same_freeze.2.2.1,same_freeze.1,same_freeze.2.2.2,by rw [Qjz];omega,fun b hb hA=>?_⟩;rw [Qdb h0,if_neg];intro e;subst e;exact absurd rfl (hA _ (List.mem_cons_self ..))
theorem QHy {e it pt:TypeId} {zz:Value} {L:List Value} {v:Value} {xs:List U8} {K:Value->World->Prop} {aT:Array TypeId} (hT:aT=#[pt,it]) (hp:P.underlying pt=some (.pointer e)) (hi:EInfo P e 1 1 zz) (hx:Qo n ρ x=sdp v) (hy:Qo n ρ y=.int .i64 xs.length)
  (hown:Own e L w v xs) (h:∀ w',Chg [v] w w'->K (.string (ZO xs)) w'):Eff P ⟨d,.call ⟨.builtin .unsafeString,#[x,y],aT⟩,t,p,af,gu⟩ n ρ w K:=by
 subst hT;have e0:execOp (Qo n ρ) ⟨d,.call ⟨.builtin .unsafeString,#[x,y],#[pt,it]⟩,t,p,af,gu⟩=(Builtin.unsafeString_ #[pt,it] t #[sdp v,.int .i64 xs.length] >>= fun v=>Pure.pure (Next.value v)):=by
  simp [execOp,resolve,invoke,builtin,hx,hy]
 refine ⟨fun w1 r=>?_,.inr fun w1 r=>?_⟩
 ·rw [e0];exact Qfw (QCl hp hi (hown.step (Stepp.ext r.ext) r.ext (fun _ _=>Ec _))).1 fun _ _ _=>Qls _
 ·rw [e0];obtain ⟨w',hr,hc⟩:=(QCl (P:=P) (it:=it) (ty:=t) hp hi (hown.step (Stepp.ext r.ext) r.ext (fun _ _=>Ec _))).2;simp only [Sem.run_bind,hr,Result.andThen,Sem.run_pure,effR];exact h w' ((r.ext.mono (fun _ h=>by cases h)).trans hc)
end
end Go.Gw

end
section
set_option linter.unusedSectionVars false
set_option linter.unusedVariables false
namespace Go.Gw
open Go
section
variable {P:Program} {α:Type} {w:World} {b:Nat} {cs:Array Value} {e:TypeId}
theorem Qyb {m:Sem α} {r:α} {fz:Nat×Nat} (hb:w.heap[b]?=some (.cells cs e fz)) (h0:0 < cs.size) (h:∀ (W:World) (es:Array Event) fz,W.heap[b]?=some (.cells cs e fz)->m.runT P W es=(.ok r W,es)):Y9 P m w:=by
 intro F Z W es es' r' w' hA hv hr;have hF:=Qqb hA hb h0;have hW:∃ fz',W.heap[b]?=some (.cells cs e fz'):=by
  rcases Classical.em (Z b) with hz | hz
  ·obtain ⟨cs',e',fz',h1,h2⟩:=hA.shr b hF hz;simp_all
  ·exact ⟨fz,(hA.own b hF hz).trans hb⟩
 obtain ⟨fz',hW⟩:=hW;rw [h w es fz hb] at hr;cases hr;exact ⟨F,W,#[],h W es fz' hW,⟨hA,fun _ x=>x,fun _ x=>.inl x,Ei _,fun _ _ _=>rfl,rfl,rfl,rfl⟩,hv,by simp,by simp⟩
variable {fz:Nat×Nat} {es:Array Event}
theorem Qtp (hb:w.heap[b]?=some (.cells cs e fz)):(shape b).runT P w es=(.ok (some (e,cs.size)) w,es):=by
 simp_all [Sem.runT,World.shape?,Sem.shape,pure,runT]
theorem QTd (hb:w.heap[b]?=some (.cells cs e fz)):(viewAt b).runT P w es=(.ok none w,es):=by
 unfold viewAt;exact (Xg (Qtp hb)).trans rfl
theorem QCb {a:Addr} (ha:a.block=b) (hb:w.heap[b]?=some (.cells cs e fz)):(Conv.seenAt a).runT P w es=(.ok a w,es):=by
 unfold Conv.seenAt;exact (Xg (QTd (ha▸hb))).trans rfl
theorem QSu (hb:w.heap[b]?=some (.cells cs e fz)):(cellsIn b).runT P w es=(.ok (some cs.size) w,es):=by
 unfold cellsIn;exact (Xg (Qtp hb)).trans rfl
theorem QTb {src dst t k:TypeId} (hs:P.underlying src=some (.pointer t)) (hd:P.underlying dst=some .unsafePointer) (ht:Xl P t (k+1)) (hb:w.heap[b]?=some (.cells cs e fz)) (h0:0 < cs.size) :
  (convert src dst (.pointer (some ⟨b,0,none⟩))).runT P w es=(.ok (.pointer (some ⟨b,0,none⟩)) w,es):=by
 have h1:(Conv.unsafePointer src dst (.pointer (some ⟨b,0,none⟩))).runT P w es=(.ok (.pointer (some ⟨b,0,none⟩)) w,es):=by
  unfold Conv.unsafePointer;refine (Xg (ZD hs)).trans ?_;refine (Xg (ZD hd)).trans ?_;dsimp only;refine (Xg (QCb rfl hb)).trans ?_;refine (Xg (QSu hb)).trans ?_;refine (Xg (Qjv ht)).trans ?_;have:¬ cs.size=0:=by omega
  simp_all
 unfold convert;refine (Xg (ZD hs)).trans ?_;exact (Xg (ZD hd)).trans h1
theorem QTc {a:Addr} {u:TypeId} {m:Nat} (ha:a.block=b) (hb:w.heap[b]?=some (.cells cs e fz)):(variablesAt a u m).runT P w es=(.ok (liesAt P P.depth e (cs.size / P.cellsOf e) a.off u m) w,es):=by
 unfold variablesAt;refine (Xg (a:=P) (w':=w) (es':=es) rfl).trans ?_;subst ha;exact (Xg (Qtp hb)).trans rfl
theorem QSy {src dst u k:TypeId} (hs:P.underlying src=some .unsafePointer) (hd:P.underlying dst=some (.pointer u)) (ht:Xl P u k) (hb:w.heap[b]?=some (.cells cs e fz)) (hl:liesAt P P.depth e (cs.size / P.cellsOf e) 0 u 1=true) :
  (convert src dst (.pointer (some ⟨b,0,none⟩))).runT P w es=(.ok (.pointer (some ⟨b,0,none⟩)) w,es):=by
 have h1:(Conv.unsafePointer src dst (.pointer (some ⟨b,0,none⟩))).runT P w es=(.ok (.pointer (some ⟨b,0,none⟩)) w,es):=by
  unfold Conv.unsafePointer;refine (Xg (ZD hs)).trans ?_;refine (Xg (ZD hd)).trans ?_;dsimp only;refine (Xg (QCb rfl hb)).trans ?_;refine (Xg (Qjv ht)).trans ?_;refine (Xg (QTc rfl hb)).trans ?_;simp_all
 unfold convert;refine (Xg (ZD hs)).trans ?_;exact (Xg (ZD hd)).trans h1
end
section
variable {P:Program} [JD P] {n:Nat} {ρ:Env} {w w':World} {b:Nat}
variable {d:Option Nat} {t T U I:TypeId} {p:String} {af:Array Edge} {gu:Option (Nat×Bool)} {x y z:Operand}
theorem QYj {c0:Value} {cs:List Value} {B t0 k:TypeId} (hs:P.underlying T=some (.pointer t0)) (hd:P.underlying U=some .unsafePointer) (ht:Xl P t0 (k+1)) (hB:Box w b (c0::cs) B) (hx:Qo n ρ x=.pointer (some ⟨b,0,none⟩)):Yl P n ρ ⟨d,.convert T U x,t,p,af,gu⟩ w (.pointer (some ⟨b,0,none⟩)):=by
 have e0:execOp (Qo n ρ) ⟨d,.convert T U x,t,p,af,gu⟩=(convert T U (.pointer (some ⟨b,0,none⟩)) >>= fun v=>Pure.pure (Next.value v)):=by simp [execOp,hx]
 have h1:∀ (W:World) (es:Array Event) fz,W.heap[b]?=some (.cells (c0::cs).toArray B fz)->(execOp (Qo n ρ) ⟨d,.convert T U x,t,p,af,gu⟩).runT P W es=(.ok (.value (.pointer (some ⟨b,0,none⟩))) W,es):=fun W es fz hW=>by
  rw [e0];exact (Xg (QTb hs hd ht hW (by simp))).trans rfl
 refine ⟨fun w1 r=>Qyb (hB.ext r.ext) (by simp) h1,fun w1 r=>?_⟩;rw [<-Sem.runT_fst P _ w1 #[],h1 w1 #[] _ (hB.ext r.ext)]
theorem QXv {c0:Value} {cs:List Value} {B u k:TypeId} (hs:P.underlying T=some .unsafePointer) (hd:P.underlying U=some (.pointer u)) (ht:Xl P u k) (hB:Box w b (c0::cs) B) (hl:liesAt P P.depth B ((c0::cs).length / P.cellsOf B) 0 u 1=true) (hx:Qo n ρ x=.pointer (some ⟨b,0,none⟩)) :
  Yl P n ρ ⟨d,.convert T U x,t,p,af,gu⟩ w (.pointer (some ⟨b,0,none⟩)):=by
 have e0:execOp (Qo n ρ) ⟨d,.convert T U x,t,p,af,gu⟩=(convert T U (.pointer (some ⟨b,0,none⟩)) >>= fun v=>Pure.pure (Next.value v)):=by simp [execOp,hx]
 have h1:∀ (W:World) (es:Array Event) fz,W.heap[b]?=some (.cells (c0::cs).toArray B fz)->(execOp (Qo n ρ) ⟨d,.convert T U x,t,p,af,gu⟩).runT P W es=(.ok (.value (.pointer (some ⟨b,0,none⟩))) W,es):=fun W es fz hW=>by
  rw [e0];exact (Xg (QSy hs hd ht hW (by omega))).trans rfl
 refine ⟨fun w1 r=>Qyb (hB.ext r.ext) (by simp) h1,fun w1 r=>?_⟩;rw [<-Sem.runT_fst P _ w1 #[],h1 w1 #[] _ (hB.ext r.ext)]
theorem QXr {e:TypeId} (hu:P.underlying T=some (.pointer e)) (hx:Qo n ρ x=.pointer none) (hy:Qo n ρ y=.pointer none):Yl P n ρ ⟨d,.binOp .eql T x y U,t,p,af,gu⟩ w (.bool true):=Yc fun w es=>by
 have h:(Op.equal T (.pointer none) (.pointer none)).runT P w es=(.ok true w,es):=by
  rw [Op.equal,show Op.maxDepth=9999+1 from rfl,Op.equalIn];exact (Xg (ZD hu)).trans rfl
 simp_all [Xg,trans,execOp,eqGuard,binOp]
theorem QXs {e:TypeId} {a:Addr} (hu:P.underlying T=some (.pointer e)) (hx:Qo n ρ x=.pointer (some a)) (hy:Qo n ρ y=.pointer none):Yl P n ρ ⟨d,.binOp .eql T x y U,t,p,af,gu⟩ w (.bool false):=Yc fun w es=>by
 have h:(Op.equal T (.pointer (some a)) (.pointer none)).runT P w es=(.ok false w,es):=by
  rw [Op.equal,show Op.maxDepth=9999+1 from rfl,Op.equalIn];exact (Xg (ZD hu)).trans rfl
 simp_all [Xg,trans,execOp,eqGuard,binOp]
theorem QYd {e k:TypeId} {a:Addr} (hu:P.underlying T=some (.pointer e)) (he:Xl P e (k+1)) (hx:Qo n ρ x=.pointer (some a)) (hy:Qo n ρ y=.pointer (some a)):Yl P n ρ ⟨d,.binOp .neq T x y U,t,p,af,gu⟩ w (.bool false):=Yc fun w es=>by
 have h:(Op.equal T (.pointer (some a)) (.pointer (some a))).runT P w es=(.ok true w,es):=by
  rw [Op.equal,show Op.maxDepth=9999+1 from rfl,Op.equalIn];refine (Xg (ZD hu)).trans ?_;refine (Xg (Qjv he)).trans ?_;simp [sameAddr,Sem.runT]
 simp_all [Xg,trans,execOp,eqGuard,binOp]
omit [JD P] in
theorem QSt {f : FuncId} {fn : Func} {g : Array Value → Sem Value} {args : Array Value} {es : Array Event} (hf : P.funcs[f]? = some fn) (hname : (fn.name == "runtime.NumGoroutine") = false) (hb : fn.body.isNone = true) (hn : Extern.findNext fn = none) (he : Extern.find fn = some g) :
    (callFunc f args).runT P w es=(g args >>= fun v=>Pure.pure (Next.value v)).runT P w (es.push ⟨.mark (.extern f),false,true⟩):=by
  have h1 : fn.name ≠ "runtime.NumGoroutine" := by simp_all
  have h2:fn.body=none:=by simpa using hb
  unfold callFunc;refine (Xg (a:=P) (w':=w) (es':=es) rfl).trans ?_;simp_all
omit [JD P] in
theorem QDl {f : FuncId} {fn : Func} {g : Array Value → Sem Value} {args : Array Value} (hf : P.funcs[f]? = some fn) (hname : (fn.name == "runtime.NumGoroutine") = false) (hb : fn.body.isNone = true) (hn : Extern.findNext fn = none) (he : Extern.find fn = some g) (ht : Tame P (g args)) : Tame P (callFunc f args) :=
  .same _ (.mark (.extern f) (g args >>= fun v=>Pure.pure (Next.value v))) (fun w es=>QSt hf hname hb hn he) (.ext f _ (.bnd ht fun _=>.pure _))
theorem QHp {f : FuncId} {fn : Func} {g : Array Value → Sem Value} {xs : Array Operand} {args : List Value} {aT : Array TypeId} {K : Value → World → Prop} (hf : P.funcs[f]? = some fn) (hname : (fn.name == "runtime.NumGoroutine") = false) (hb : fn.body.isNone = true) (hn : Extern.findNext fn = none) (he : Extern.find fn = some g)
    (ha:(xs.map (Qo n ρ)).toList=args) (ht:Tame P (g args.toArray)) (hr:∀ w1,Ext w w1->∃ v w',(g args.toArray).run P w1=.ok v w'/\K v w'):Eff P ⟨d,.call ⟨.value (.func f),xs,aT⟩,t,p,af,gu⟩ n ρ w K:=by
  have e:xs.map (Qo n ρ)=args.toArray:=by rw [<-ha]
  have e0:execOp (Qo n ρ) ⟨d,.call ⟨.value (.func f),xs,aT⟩,t,p,af,gu⟩=callFunc f args.toArray:=by
    simp only [execOp,resolve,Deferred.ofValue,invoke,e,Qo,pure_bind,Array.empty_append,Array.append_empty]
  refine Ju (by grind [QDl]) fun w1 e1=>?_;obtain ⟨v,w',h1,h2⟩:=hr w1 e1;rw [e0,run_callFunc_extern hf hname hb hn he,h1];exact h2
theorem QXt {f : FuncId} {fn : Func} {g : Array Value → Sem Value} {xs : Array Operand} {args : List Value} {aT : Array TypeId} {v : Value} (hf : P.funcs[f]? = some fn) (hname : (fn.name == "runtime.NumGoroutine") = false) (hb : fn.body.isNone = true) (hn : Extern.findNext fn = none) (he : Extern.find fn = some g)
    (ha:(xs.map (Qo n ρ)).toList=args) (hg:g args.toArray=Pure.pure v):Yl P n ρ ⟨d,.call ⟨.value (.func f),xs,aT⟩,t,p,af,gu⟩ w v:=by
  have e:xs.map (Qo n ρ)=args.toArray:=by rw [<-ha]
  have e0:execOp (Qo n ρ) ⟨d,.call ⟨.value (.func f),xs,aT⟩,t,p,af,gu⟩=callFunc f args.toArray:=by
    simp only [execOp,resolve,Deferred.ofValue,invoke,e,Qo,pure_bind,Array.empty_append,Array.append_empty]
  refine Zl (by rw [e0];exact QDl hf hname hb hn he (by rw [hg];exact .pure _)) fun w1 e1=>?_;simp_all [run_callFunc_extern]
omit [JD P] in
theorem QVp (m:Nat) (ps:Array TypeId) (t:TypeId):Tame P (Extern.BytealgMakeNoZero.makeNoZero ps #[t] #[.int .i64 m]):=by
 unfold Extern.BytealgMakeNoZero.makeNoZero
 repeat' first
  | exact .pure _
  | exact YS _
  | exact Qcj _
  | exact Qfc _
  | refine .bnd (Qbc _) fun _=>?_
  | refine .bnd (Qez _) fun _=>?_
  | refine .bnd (Qki _) fun _=>?_
  | refine .bnd (Qfa _ _) fun _=>?_
  | refine .bnd (Qcj _) fun _=>?_
  | refine Qbb ?_ ?_
  | split
theorem QHs {f : FuncId} {fn : Func} {e : TypeId} {ps : Array TypeId} {x : Operand} {aT : Array TypeId} {i : Int} {K : Value → World → Prop} (hf : P.funcs[f]? = some fn) (hname : (fn.name == "runtime.NumGoroutine") = false) (hb : fn.body.isNone = true) (hn : Extern.findNext fn = none)
    (he:Extern.find fn=some (Extern.BytealgMakeNoZero.makeNoZero ps #[T])) (hu:P.underlying T=some (.slice e)) (hx:Qo n ρ x=.int .i64 i) (h0:0 < i) (h1:i<=1073741824)
    (h:∀ v w',Ext w w'->(∀ b,Qt v=some b->w.heap.size<=b)->(∃ b c cs,v=.slice (some ⟨b,0,none⟩) i.toNat c/\w'.heap[b]?=some (.cells cs e (0,0))/\cs.size=c/\i.toNat<=c/\c<=maxLen)->K v w'):Eff P ⟨d,.call ⟨.value (.func f),#[x],aT⟩,t,p,af,gu⟩ n ρ w K:=by
  obtain ⟨m,rfl⟩:∃ m:Nat,i=(m:Int):=⟨i.toNat,by omega⟩;refine QHp (args:=[.int .i64 m]) hf hname hb hn he (by simp [hx]) (QVp m ps T) fun w1 e1=>?_;obtain ⟨cs,hr,hle,hmax⟩:=Lib.run_makeNoZero (P:=P) w1 ps T e hu m (by omega);refine ⟨_,_,hr,h _ _ (e1.trans ⟨rfl,rfl,rfl,by simp,fun k hk _=>Lib.alloc_old w1.drew.drew _ k hk⟩) (fun b hb=>?_) ⟨_,_,cs,rfl,heap_alloc_new w1.drew.drew _,rfl,hle,hmax (by unfold maxLen;omega)⟩⟩;have hb:some w1.heap.size=some b:=hb;cases hb;exact e1.size
def BldAt (T:TypeId) (w:World) (b:Nat) (v:Value):Prop:=Qcg v/\∃ q,(q=.pointer none\/q=.pointer (some ⟨b,0,none⟩))/\Box w b [q,v] T
omit [JD P] in
theorem BldAt.chg {T:TypeId} {v:Value} {H:List Value} (h:BldAt T w b v) (c:Chg H w w') (hA:Avoids H b):BldAt T w' b v:=by
 obtain ⟨h1,q,h2,h⟩:=h;exact ⟨h1,q,h2,h.chg c hA⟩
omit [JD P] in
theorem BldAt.ext {T:TypeId} {v:Value} (h:BldAt T w b v) (c:Ext w w'):BldAt T w' b v:=h.chg c (Ec _)
omit [JD P] in
theorem QBy:Qcg (.slice none 0 0):=fun _ _ h=>by cases h
omit [JD P] in
theorem BldAt.new {T:TypeId} (h:Box w b [.pointer none,.slice none 0 0] T):BldAt T w b (.slice none 0 0):=⟨QBy,_,.inl rfl,h⟩
end
end Go.Gw

end
section
set_option linter.unusedSectionVars false
namespace Go.Gw
open Go

theorem YD {x:Int} (h:-9223372036854775808<=x/\x<=9223372036854775807):w64 x=x:=Go.IntWalk.i64_in x h

def Runs {α:Type} (e:Option α) (Q:α->Prop):Prop:=∃ a,e=some a/\Q a

section
variable {α β σ μ:Type} {Q:α->Prop} {e e':Option α}
theorem Runs.some {a:α} (h:Q a):Runs (some a) Q:=⟨a,rfl,h⟩
theorem Runs.bind {e:Option β} {f:β->Option α} (h:Runs e fun b=>Runs (f b) Q):Runs (e.bind f) Q:=by
 obtain ⟨b,rfl,a,ha,hq⟩:=h;exact ⟨a,ha,hq⟩
theorem Runs.mono {Q':α->Prop} (h:Runs e Q) (hm:∀ a,Q a->Q' a):Runs e Q':=by obtain ⟨a,ha,hq⟩:=h;exact ⟨a,ha,hm _ hq⟩
theorem Runs.eq {a:α} (h:Runs e (·=a)):e=.some a:=by obtain ⟨b,hb,rfl⟩:=h;exact hb
theorem Runs.call {e:Option β} {f:β->Option α} {b:β} (h:e=.some b) (hq:Runs (f b) Q):Runs (e.bind f) Q:=by simp_all
theorem Runs.callR {e:Option β} {f:β->Option α} {R:β->Prop} (h:Runs e R) (hq:∀ b,R b->Runs (f b) Q):Runs (e.bind f) Q:=by obtain ⟨b,rfl,hb⟩:=h;grind
theorem Runs.bif {b:Bool} (ht:b=true->Runs e Q) (hf:b=false->Runs e' Q):Runs (bif b then e else e') Q:=by
 grind
theorem Runs.bif_t {b:Bool} (hb:b=true) (ht:Runs e Q):Runs (bif b then e else e') Q:=by simp_all
theorem Runs.bif_f {b:Bool} (hb:b=false) (hf:Runs e' Q):Runs (bif b then e else e') Q:=by simp_all
def Rnd (I:σ->Prop) (m:σ->Nat) (Q:β->Prop) (s:σ):σ⊕β->Prop
 | .inl s'=>I s'/\m s' < m s
 | .inr o=>Q o
theorem Runs.loop {step:σ->Option (σ⊕β)} {s:σ} {Q:β->Prop} (I:σ->Prop) (m:σ->Nat) (h0:I s) (h:∀ s,I s->Runs (step s) (Rnd I m Q s)):Runs (Gw.loop step s) Q:=by
 generalize hk:m s=k
 induction k using Nat.strongRecOn generalizing s with
 | _ k ih =>
  obtain ⟨x,hx,hq⟩:=h s h0;cases x with
  | inl s' =>
   rw [JP hx];exact ih (m s') (by have:=hq.2;omega) hq.1 rfl
  | inr o=>rw [Jv hx];exact ⟨o,rfl,hq⟩
theorem Qgi {step:σ->Option (σ⊕β)} {o:β} (S:Nat->σ) (n:Nat) (h:∀ k,k < n->step (S k)=.some (.inl (S (k+1)))) (he:step (S n)=.some (.inr o)):Gw.loop step (S 0)=.some o:=by
 have key:∀ j k,j+k=n->Gw.loop step (S k)=.some o:=by
  intro j
  induction j with
  | zero=>grind [Jv]
  | succ j ih=>grind [JP]
 simp_all

theorem Xh {xs:List β} {k:Nat} (h:k < xs.length):Gw.idx xs (k:Int)=.some xs[k]:=by
 simp_all [if_pos,Ee,List.getElem?_eq_getElem,Gw.idx]
theorem Xh? {xs:List β} {k:Nat}:Gw.idx xs (k:Int)=xs[k]?:=by
 rfl
theorem Zm {xs ys:List β} (h:xs.length+ys.length<=1073741824):app xs ys=.some (xs++ys):=by unfold app;grind
theorem QRq {a b:Int} (h:b≠0):quo a b=.some (w64 (a.tdiv b)):=by unfold quo;grind
end
end Go.Gw

end
section
set_option maxRecDepth 100000
set_option maxHeartbeats 8000000
set_option linter.unusedVariables false
set_option linter.unusedSectionVars false
namespace Go.Gw
open Go Go.Proofs
theorem Qqn:Xl Tryz.prog 126 2:=Yw (by kernel_rfl)
theorem Qhu:Xl Tryz.prog 123 1:=Yw (by kernel_rfl)
theorem Qqh:YX Tryz.prog 123:=⟨_,Tryz.underlying123,trivial⟩
attribute [local irreducible] T0 TS TT TP Eff Stp WC Quiet gd
variable [JD Tryz.prog]
theorem Qwm {w:World} {b:Nat} {v:Value} {q:Value} (hq:q=.pointer none\/q=.pointer (some ⟨b,0,none⟩)) (hB:Box w b [q,v] 126) (h1:v.oneCell'=true):CallsTo Tryz.prog 103 [.pointer (some ⟨b,0,none⟩)] w (fun r w'=>Chg [.pointer (some ⟨b,0,none⟩)] w w'/\Jz []=r/\Box w' b [.pointer (some ⟨b,0,none⟩),v] 126):=by
 refine Qfp (n:=20) (rs:=[]) Tryz.func103 rfl rfl rfl rfl rfl ?_;rcases hq with rfl | rfl
 ·refine Qd <| Xt (.pointer (some ⟨b,0,none⟩)) rfl <| Yq (.pointer (some ⟨b,0,none⟩)) (XW rfl) <| Yq (.pointer (some ⟨b,0,none⟩)) (Jo 0 Tryz.underlying126 rfl rfl ⟨0,Qhu⟩ rfl rfl) <| Yq (.pointer none) (Qh Qqh rfl hB.at) <| Yq (.bool true) (QXr Tryz.underlying123 rfl rfl) <| Qb <| ZU (b:=true) rfl (fun _=>?_) (fun h=>by cases h)
  refine QH <| Xt (.pointer (some ⟨b,0,none⟩)) rfl <| Xt (.pointer (some ⟨b,0,none⟩)) rfl <| Yq (.pointer (some ⟨b,0,none⟩)) (QYj (k:=1) Tryz.underlying123 Tryz.underlying183 Qqn hB rfl) <| Yq (.pointer (some ⟨b,0,none⟩)) (QXt (args:=[.pointer (some ⟨b,0,none⟩)]) Tryz.func156 (by kernel_rfl) (by kernel_rfl) (by kernel_rfl) (g:=Extern.AbiNoEscape.same) (by kernel_rfl) (QM rfl) rfl) <| Yq (.pointer (some ⟨b,0,none⟩)) (QXv (k:=2) Tryz.underlying183 Tryz.underlying123 Qqn hB (by kernel_rfl) rfl) <| Yq (.pointer (some ⟨b,0,none⟩)) (XW rfl) <| Yq (.pointer (some ⟨b,0,none⟩)) (Jo 0 Tryz.underlying126 rfl rfl ⟨0,Qhu⟩ rfl rfl) <| Qf rfl (Je (vs:=[.pointer (some ⟨b,0,none⟩)]) (cs':=[.pointer (some ⟨b,0,none⟩),v]) Qhu rfl rfl rfl rfl hB rfl (Ql rfl QO) rfl ?_)
  intro w' hc hB';exact Qb ⟨[],trivial,hc,rfl,hB'⟩
 ·refine Qd <| Xt (.pointer (some ⟨b,0,none⟩)) rfl <| Yq (.pointer (some ⟨b,0,none⟩)) (XW rfl) <| Yq (.pointer (some ⟨b,0,none⟩)) (Jo 0 Tryz.underlying126 rfl rfl ⟨0,Qhu⟩ rfl rfl) <| Yq (.pointer (some ⟨b,0,none⟩)) (Qh Qqh rfl hB.at) <| Yq (.bool false) (QXs Tryz.underlying123 rfl rfl) <| Qb <| ZU (b:=false) rfl (fun h=>by cases h) (fun _=>?_)
  refine Qd <| Xt (.pointer (some ⟨b,0,none⟩)) rfl <| Yq (.pointer (some ⟨b,0,none⟩)) (XW rfl) <| Yq (.pointer (some ⟨b,0,none⟩)) (Jo 0 Tryz.underlying126 rfl rfl ⟨0,Qhu⟩ rfl rfl) <| Yq (.pointer (some ⟨b,0,none⟩)) (Qh Qqh rfl hB.at) <| Xt (.pointer (some ⟨b,0,none⟩)) rfl <| Yq (.bool false) (QYd (k:=1) Tryz.underlying123 Qqn rfl rfl) <| Qb <| ZU (b:=false) rfl (fun h=>by cases h) (fun _=>?_)
  exact Qy ⟨[],trivial,Chg.refl _ _,rfl,hB⟩
theorem Qai:Xl Tryz.prog 124 1:=Yw (by kernel_rfl)
theorem Qcs:YX Tryz.prog 124:=⟨_,Tryz.underlying124,trivial⟩
theorem bi5:EInfo Tryz.prog 5 1 1 (.int .u8 0):=⟨_,rfl,by kernel_rfl,by kernel_rfl,by kernel_rfl,rfl,Nat.one_pos⟩
abbrev pb (b:Nat):Value:=.pointer (some ⟨b,0,none⟩)
theorem Qli {u v:Value} {w w':World} (h:Chg [u] w w'):Chg [v,u] w w':=h.mono (fun x hx=>by simp_all)
theorem Qeb {L:List Value} {w:World} {b:Nat} {v:Value} {xs zs:List U8} {s:ByteArray} (hb:BldAt 126 w b v) (ho:Own 5 (v::pb b::L) w v xs) (hn:Qt v≠some b) (hm:app xs (bl s)=some zs) :
  CallsTo Tryz.prog 70 [pb b,.string s] w (fun r w'=>Chg [v,pb b] w w'/\∃ v',Jz [.int .i64 s.size,.nilIface]=r/\BldAt 126 w' b v'/\Own 5 (v'::pb b::L) w' v' zs/\Qt v'≠some b/\∀ k,Qt v'=some k->Qt v=some k\/w.heap.size<=k):=by
 obtain ⟨hr,q,hq,hB⟩:=hb;refine Q0 (n:=19) (rs:=[.tmp 4,.tmp 5]) Tryz.func70 rfl rfl rfl rfl rfl ?_;refine Qd <| YF (.int .i64 0) rfl <| YF .nilIface rfl <| Qb <| Qd <| Xt (pb b) rfl <| Qf rfl (Qq Tryz.func103 (by kernel_rfl) rfl (QM rfl) (Qwm hq hB ho.one1) ?_)
 rintro _ w1 ⟨hc1,rfl,hB1⟩;have ho1:Own 5 (v::pb b::L) w1 v xs:=ho.step (Qn hc1 Xa) hc1 (Xu hn);refine Qb <| Qd <| Xt (pb b) rfl <| Xt (pb b) rfl <| Yq (pb b) (XW rfl) <| Yq (.pointer (some ⟨b,1,none⟩)) (Jo 1 Tryz.underlying126 rfl rfl ⟨0,Qai⟩ rfl rfl) <| Yq v (Qh Qcs rfl (hB1.at.drop 1)) <| Xt (.string s) rfl <| Qf rfl (QHj Tryz.underlying124 Tryz.underlying9 bi5 rfl rfl rfl rfl ho1 hr hm ?_)
 intro v' w2 hc2 hbl ho2 hr2;have hbl':∀ k,Qt v'=some k->Qt v=some k\/w.heap.size<=k:=fun k hk=>(hbl k hk).imp id fun h=>Eg hc1.size h
 have hn':Qt v'≠some b:=XJ hbl hn hB1;have hB2:Box w2 b [pb b,v] 126:=hB1.chg hc2 (Xd hn);refine Yq (pb b) (XW rfl) <| Yq (.pointer (some ⟨b,1,none⟩)) (Jo 1 Tryz.underlying126 rfl rfl ⟨0,Qai⟩ rfl rfl) <| Qf rfl (Je (vs:=[v']) (cs':=[pb b,v']) Qai (Q3 ho2.one1) rfl rfl rfl hB2 rfl (Ql ho2.one1 QO) rfl ?_)
 intro w3 hc3 hB3;have ho3:Own 5 (v'::pb b::L) w3 v' zs:=ho2.step (Qn hc3 Xa) hc3 (Xu hn');refine Qb <| Qd <| Xt (.string s) rfl <| Yq (.int .i64 s.size) (J1 rfl Tryz.underlying9 rfl) <| YF (.int .i64 s.size) rfl <| YF .nilIface rfl <| Qb <| Qw ⟨[.int .i64 s.size,.nilIface],⟨rfl,rfl,trivial⟩,?_,v',rfl,⟨hr2,_,.inr rfl,hB3⟩,ho3,hn',hbl'⟩
 exact ((Qli hc1).trans (hc2.mono (fun x hx=>by rcases Ed.1 hx with rfl;simp))).trans (Qli hc3)
theorem Qqm:Tryz.prog.follows .mixedOrders=true:=by kernel_rfl
theorem Qql {L:List Value} {w:World} {b:Nat} {v:Value} {xs:List U8} (hb:BldAt 126 w b v) (ho:Own 5 L w v xs) :
  CallsTo Tryz.prog 72 [pb b] w (fun r w'=>Chg [v] w w'/\Jz [.string (ZO xs)]=r):=by
 obtain ⟨hr,q,hq,hB⟩:=hb;refine Q0 (n:=14) (rs:=[.tmp 2]) Tryz.func72 rfl rfl rfl rfl rfl ?_;refine Qd <| YF (.string .empty) rfl <| Qb <| Qi fun K hK=>Qpv Qqm (.p 0 (.p 1 (.p 2 (.q 3 (.q 4 (.p 5 (.p 6 (.p 7 (.q 8 (.p 9 (.b 10 (.p 11 .done)))))))))))) (by kernel_rfl) ?_
 intro w0 e0;refine Yu (v:=pb b) rfl rfl (fun w'=>QB rfl) <| Yu (v:=pb b) rfl rfl (fun w'=>XW rfl) <| Yu (v:=.pointer (some ⟨b,1,none⟩)) rfl rfl (fun w'=>Jo 1 Tryz.underlying126 rfl rfl ⟨0,Qai⟩ rfl rfl) <| Qdx (v:=v) rfl rfl (fun w' hS=>Qh Qcs rfl ((hB.ext (e0.trans hS)).at.drop 1)) <|
  Qdx (v:=sdp v) rfl rfl (fun w' hS=>QYh (ho.step (Stepp.ext (e0.trans hS)) (e0.trans hS) (fun _ _=>Ec _)) hr rfl) <| Yu (v:=pb b) rfl rfl (fun w'=>QB rfl) <| Yu (v:=pb b) rfl rfl (fun w'=>XW rfl) <| Yu (v:=.pointer (some ⟨b,1,none⟩)) rfl rfl (fun w'=>Jo 1 Tryz.underlying126 rfl rfl ⟨0,Qai⟩ rfl rfl) <| Qdx (v:=v) rfl rfl (fun w' hS=>Qh Qcs rfl ((hB.ext (e0.trans hS)).at.drop 1)) <|
  Yu (v:=.int .i64 xs.length) rfl rfl (fun w'=>Qcn rfl Tryz.underlying124 ho rfl) <| QFd rfl rfl (QHy rfl Tryz.underlying170 bi5 rfl rfl (ho.step (Stepp.ext e0) e0 (fun _ _=>Ec _)) ?_)
 intro w1 hc;refine Yu (v:=.string (ZO xs)) rfl rfl (fun w'=>X4 rfl) <| Qpu <| hK _ _ <| Qw ⟨[.string (ZO xs)],⟨rfl,trivial⟩,(e0.mono (fun _ h=>by cases h)).trans hc,rfl⟩
section
variable {P:Program} [JD P] {n:Nat} {ρ:Env} {w:World}
variable {d:Option Nat} {t T U:TypeId} {p:String} {af:Array Edge} {gu:Option (Nat×Bool)} {x y z:Operand}
theorem QXn {e:TypeId} {k:IntKind} {sz m c b:Nat} (hu:P.underlying T=some (.slice e)) (hz:Xl P e sz) (hx:Qo n ρ x=.slice (some ⟨b,0,none⟩) m c) (hh:Qo n ρ z=.int k 0):Yl P n ρ ⟨d,.slice T x none (some z) none,t,p,af,gu⟩ w (.slice (some ⟨b,0,none⟩) 0 c) :=
 Zl (Yn (Qdn _ _ _ _ _)) fun w1 _=>by
  simp [execOp,hx,hh,Instr.sliceAt,Instr.slice,run_underlying hu,Instr.sliceBounds,Instr.sliceBound,asIntOf,ZE hz,Addr.add]
theorem QXj {k:IntKind} {a b c:Int} (h:k.wrap (a+b)=c) (hx:Qo n ρ x=.int k a) (hy:Qo n ρ y=.int k b):Yl P n ρ ⟨d,.binOp .add T x y U,t,p,af,gu⟩ w (.int k c):=h▸Q2 hx hy
theorem QXm {e:TypeId} {sz c:Nat} {a:Addr} {aT:Array TypeId} (ha:aT[0]?=some T) (hu:P.underlying T=some (.slice e)) (hz:Xl P e sz) (hx:Qo n ρ x=.slice (some a) 0 c) (hy:Qo n ρ y=.slice none 0 0):Yl P n ρ ⟨d,.call ⟨.builtin .copy,#[x,y],aT⟩,t,p,af,gu⟩ w (.int .i64 0):=by
 have e0:execOp (Qo n ρ) ⟨d,.call ⟨.builtin .copy,#[x,y],aT⟩,t,p,af,gu⟩=(Builtin.copy_ aT t #[.slice (some a) 0 c,.slice none 0 0] >>= fun v=>Pure.pure (Next.value v)):=by
  simp [execOp,resolve,invoke,builtin,hx,hy]
 refine Zl (by grind [Yn,QVo]) fun w1 _=>?_;rw [e0];simp [Builtin.copy_,ha,run_underlying hu,ZE hz,Builtin.lenOf,Builtin.firstCells,storeCells,goInt]
end
theorem QGj {L:List Value} {w:World} {b:Nat} {q:Value} {i:Int} (hq:q=.pointer (some ⟨b,0,none⟩)) (hB:Box w b [q,.slice none 0 0] 126) (h0:0 < i) (h1:i<=1073741824) :
    CallsTo Tryz.prog 158 [pb b,.int .i64 i] w (fun r w'=>Chg [pb b] w w'/\Jz []=r/\∃ v',Qcg v'/\Box w' b [q,v'] 126/\Own 5 (v'::pb b::L) w' v' ([]:List U8)/\Qt v'≠some b/\∀ k,Qt v'=some k->w.heap.size<=k):=by
  refine Qfp (n:=30) (rs:=[]) Tryz.func158 rfl rfl rfl rfl rfl ?_;have hw:w64 (w64 (2 * 0)+i)=i:=by grind [YD]
  refine Qi fun K hK=>Qpv Qqm (.p 0 (.p 1 (.p 2 (.q 3 (.p 4 (.p 5 (.p 6 (.p 7 (.p 9 (.p 10 (.p 11 (.q 12 (.p 13 (.e 8 (.p 14 (.p 15 .done)))))))))))))))) (by kernel_rfl) ?_;intro w0 e0;refine Yu (v:=pb b) rfl rfl (fun w'=>QB rfl) <| Yu (v:=pb b) rfl rfl (fun w'=>XW rfl) <| Yu (v:=.pointer (some ⟨b,1,none⟩)) rfl rfl (fun w'=>Jo 1 Tryz.underlying126 rfl rfl ⟨0,Qai⟩ rfl rfl) <| Qdx (v:=.slice none 0 0) rfl rfl (fun w' hS=>Qh Qcs rfl ((hB.ext (e0.trans hS)).at.drop 1)) <|
    Yu (v:=.int .i64 0) rfl rfl (fun w'=>Qpm rfl Tryz.underlying124 rfl) <| Yu (v:=.int .i64 (w64 (2 * 0))) rfl rfl (fun w'=>Qhh rfl rfl) <| Yu (v:=.int .i64 i) rfl rfl (fun w'=>QB rfl) <| Yu (v:=.int .i64 i) rfl rfl (fun w'=>QXj hw rfl rfl) <|
    Yu (v:=pb b) rfl rfl (fun w'=>QB rfl) <| Yu (v:=pb b) rfl rfl (fun w'=>XW rfl) <| Yu (v:=.pointer (some ⟨b,1,none⟩)) rfl rfl (fun w'=>Jo 1 Tryz.underlying126 rfl rfl ⟨0,Qai⟩ rfl rfl) <| Qdx (v:=.slice none 0 0) rfl rfl (fun w' hS=>Qh Qcs rfl ((hB.ext (e0.trans hS)).at.drop 1)) <|
    Yu (v:=.int .i64 0) rfl rfl (fun w'=>Qcn rfl Tryz.underlying124 (Own.nil (α:=U8) 5 [] w') rfl) <| QFe rfl rfl (QHs (T:=124) (ps:=#[3]) Tryz.func177 (by kernel_rfl) (by kernel_rfl) (by kernel_rfl) (by kernel_rfl) Tryz.underlying124 rfl h0 h1 ?_)
  rintro v1 w1 e1 hf1 ⟨b1,c1,cs,rfl,hrow,hsz,hle,hmx⟩;refine ⟨e1,?_⟩;have hB1:Box w1 b [q,.slice none 0 0] 126:=hB.ext (e0.trans e1);have hcs:c1≠0:=by omega
  have hbn:w0.heap.size<=b1:=hf1 b1 rfl;have hne:b1≠b:=fun e=>by have:=(hB.ext e0).lt;omega
  refine Yu (v:=.slice (some ⟨b1,0,none⟩) 0 c1) rfl rfl (fun w'=>QXn Tryz.underlying124 bi5.size rfl rfl) <| Yu (v:=.slice (some ⟨b1,0,none⟩) 0 c1) rfl rfl (fun w'=>X4 rfl) <| Qpu <| hK _ _ <| Qd <| Xt (.slice (some ⟨b1,0,none⟩) 0 c1) rfl <| Xt (pb b) rfl <| Yq (pb b) (XW rfl) <| Yq (.pointer (some ⟨b,1,none⟩)) (Jo 1 Tryz.underlying126 rfl rfl ⟨0,Qai⟩ rfl rfl) <| Yq (.slice none 0 0) (Qh Qcs rfl (hB1.at.drop 1)) <| Yq (.int .i64 0) (QXm rfl Tryz.underlying124 bi5.size rfl rfl) <| Qb <|
    QH <| Xt (pb b) rfl <| Xt (.slice (some ⟨b1,0,none⟩) 0 c1) rfl <| Yq (pb b) (XW rfl) <| Yq (.pointer (some ⟨b,1,none⟩)) (Jo 1 Tryz.underlying126 rfl rfl ⟨0,Qai⟩ rfl rfl) <| Qf rfl (Je (vs:=[.slice (some ⟨b1,0,none⟩) 0 c1]) (cs':=[q,.slice (some ⟨b1,0,none⟩) 0 c1]) Qai rfl rfl rfl rfl hB1 rfl (Ql rfl QO) rfl ?_)
  intro w2 hc2 hB2;have ho1:Own 5 (.slice (some ⟨b1,0,none⟩) 0 c1::pb b::L) w1 (.slice (some ⟨b1,0,none⟩) 0 c1) ([]:List U8):=⟨[],⟨rfl,.inr ⟨b1,c1,cs,rfl,El _,hrow,El _,hmx,by rw [hsz];exact (Eb _).symm,rfl⟩⟩,Elems.nil⟩;have hn1:Qt (.slice (some ⟨b1,0,none⟩) 0 c1)≠some b:=fun e=>hne (by grind [Qt])
  refine Qb ⟨[],trivial,((e0.trans e1).mono (fun _ h=>by cases h)).trans hc2,rfl,_,fun a m h=>?_,hB2,ho1.step (Qn hc2 Xa) hc2 (Xu hn1),hn1,fun k hk=>?_⟩
  · simp_all
  · have hk:some b1=some k:=hk;cases hk;exact Eg e0.size hbn
def grw (i:Int):Option Unit:=if 0<=i/\i<=1073741824 then some () else none
theorem QGi {L:List Value} {w:World} {b:Nat} {i:Int} {u:Unit} (hb:BldAt 126 w b (.slice none 0 0)) (hg:grw i=some u) :
  CallsTo Tryz.prog 105 [pb b,.int .i64 i] w (fun r w'=>Chg [.slice none 0 0,pb b] w w'/\∃ v',Jz []=r/\BldAt 126 w' b v'/\Own 5 (v'::pb b::L) w' v' ([]:List U8)/\Qt v'≠some b/\∀ k,Qt v'=some k->Qt (.slice none 0 0)=some k\/w.heap.size<=k):=by
 obtain ⟨h0,h1⟩:0<=i/\i<=1073741824:=by
  grind [grw]
 obtain ⟨hr,q,hq,hB⟩:=hb;refine Qfp (n:=25) (rs:=[]) Tryz.func105 rfl rfl rfl rfl rfl ?_;refine Qd <| Xt (pb b) rfl <| Qf rfl (Qq Tryz.func103 (by kernel_rfl) rfl (QM rfl) (Qwm hq hB rfl) ?_)
 rintro _ w1 ⟨hc1,rfl,hB1⟩;refine Qb <| Qi fun K hK=>Qd <| Xt (.int .i64 i) rfl <| Yq (.bool (decide (i < 0))) (Xe rfl rfl) <| Qb <| ZU (b:=decide (i < 0)) rfl (fun h=>by grind) (fun _=>Qy <| hK _ _ ?_)
 refine Qi fun K2 hK2=>Qpv Qqm (.p 0 (.p 1 (.p 2 (.q 3 (.p 4 (.p 5 (.p 6 (.p 7 (.q 8 (.p 9 (.p 10 (.p 11 (.p 12 .done))))))))))))) (by kernel_rfl) ?_;intro w2 e2;have hB2:∀ w',Ext w2 w'->Box w' b [pb b,.slice none 0 0] 126:=fun w' hS=>hB1.ext (e2.trans hS)
 have hw:IntKind.i64.wrap (0 - 0)=0:=rfl;refine Yu (v:=pb b) rfl rfl (fun w'=>QB rfl) <| Yu (v:=pb b) rfl rfl (fun w'=>XW rfl) <| Yu (v:=.pointer (some ⟨b,1,none⟩)) rfl rfl (fun w'=>Jo 1 Tryz.underlying126 rfl rfl ⟨0,Qai⟩ rfl rfl) <| Qdx (v:=.slice none 0 0) rfl rfl (fun w' hS=>Qh Qcs rfl ((hB2 w' hS).at.drop 1)) <|
  Yu (v:=.int .i64 0) rfl rfl (fun w'=>Qpm rfl Tryz.underlying124 rfl) <| Yu (v:=pb b) rfl rfl (fun w'=>QB rfl) <| Yu (v:=pb b) rfl rfl (fun w'=>XW rfl) <| Yu (v:=.pointer (some ⟨b,1,none⟩)) rfl rfl (fun w'=>Jo 1 Tryz.underlying126 rfl rfl ⟨0,Qai⟩ rfl rfl) <| Qdx (v:=.slice none 0 0) rfl rfl (fun w' hS=>Qh Qcs rfl ((hB2 w' hS).at.drop 1)) <|
  Yu (v:=.int .i64 0) rfl rfl (fun w'=>Qcn rfl Tryz.underlying124 (Own.nil (α:=U8) 5 [] w') rfl) <| Yu (v:=.int .i64 (IntKind.i64.wrap (0 - 0))) rfl rfl (fun w'=>YJ rfl rfl) <| Yu (v:=.int .i64 i) rfl rfl (fun w'=>QB rfl) <| Yu (v:=.bool (decide (IntKind.i64.wrap (0 - 0) < i))) rfl rfl (fun w'=>Xe rfl rfl) <| Qpu <| hK2 _ _ ?_
 rw [hw];refine ZU (b:=decide (0 < i)) rfl (fun h=>?_) (fun h=>?_)
 ·have h:0 < i:=by grind
  refine QH <| Xt (pb b) rfl <| Xt (.int .i64 i) rfl <| Qf rfl (Qq Tryz.func158 (by kernel_rfl) rfl (QV rfl rfl) (QGj (L:=L) rfl (hB1.ext e2) h h1) ?_)
  rintro _ w3 ⟨hc3,rfl,v',hr',hB3,ho3,hn3,hf3⟩;exact Qb ⟨[],trivial,Qli ((hc1.trans (e2.mono (fun _ h=>by cases h))).trans hc3),v',rfl,⟨hr',_,.inr rfl,hB3⟩,ho3,hn3,fun k hk=>.inr (Eg (Eg hc1.size e2.size) (hf3 k hk))⟩
 ·exact Qy ⟨[],trivial,Qli (hc1.trans (e2.mono (fun _ h=>by cases h))),_,rfl,⟨QBy,_,.inr rfl,hB1.ext e2⟩,Own.nil _ _ _,(fun h=>by cases h),(fun k h=>by cases h)⟩
end Go.Gw

end
section
namespace Go.Gw
open Go
section
variable {P:Program} [JD P] {n:Nat} {ρ:Env} {w:World}
variable {d:Option Nat} {t T:TypeId} {p:String} {af:Array Edge} {gu:Option (Nat×Bool)} {x y:Operand}
end
end Go.Gw

end
section
namespace Go.Gw
open Go
structure RwB where
 b:Nat
 pre:List Value
 post:List Value
 T:TypeId
 cap:Nat
def ZF (xs:List U8):List Value:=(JX xs).map (Value.int .u8)
theorem Qdo (xs:List U8):(ZF xs).length=xs.length:=@List.length_map _ _ (JX xs) (Value.int .u8)
theorem QEa {xs:List U8} {k:Nat} {el:U8} (h:xs[k]?=some el):(ZF xs)[k]?=some (.int .u8 el):=by
 have h2:(JX xs)[k]?=some el:=h;unfold ZF;rw [List.getElem?_map,h2];rfl
theorem QWf (xs:List U8) (k:Nat) (y:U8):ZF (xs.set k y)=(ZF xs).set k (.int .u8 y):=by
 show Ep (Value.int .u8) ((JX xs).set k y)=(Ep (Value.int .u8) (JX xs)).set k (.int .u8 y);exact List.map_set
def Rwo (B:RwB) (_e:TypeId) (_L:List Value) (w:World) (v:Value) (xs:List U8):Prop :=
 v=.slice (some ⟨B.b,B.pre.length,none⟩) xs.length B.cap/\Box w B.b (B.pre++ZF xs++B.post) B.T
section
variable {B:RwB} {e e':TypeId} {L:List Value} {w w':World} {v:Value} {xs:List U8} {i:Int} {el:U8}
theorem Rwo.ext (h:Rwo B e L w v xs) (c:Ext w w'):Rwo B e L w' v xs:=⟨h.1,h.2.ext c⟩
theorem Rwo.sub {L':List Value} (h:Rwo B e L w v xs) (_hs:∀ x∈L',x∈L):Rwo B e L' w v xs:=h
theorem Rwo.at (h:Rwo B e L w v xs) (hel:idx xs i=some el):∃ cs,At w (YU v i.toNat 1) cs/\Rep.rd (α:=U8) L w cs el:=by
 obtain ⟨h0,h1,h2⟩:=J9 hel;obtain ⟨rfl,hb⟩:=h;refine ⟨[.int .u8 el],?_,rfl⟩;show At w (Addr.add ⟨B.b,B.pre.length,none⟩ (i.toNat * 1)) _;rw [YK,Eb];refine At.of_block hb fun j u hu=>?_;cases j with
 | zero =>
  cases hu;rw [Nat.add_zero,Eo,Ef,List.getElem?_append_right (Nat.le_add_right _ _),Ek,List.getElem?_append_left (by rw [Qdo];exact h1),QEa h2]
 | succ j=>cases hu
end
section
variable {P:Program} [JD P] {n:Nat} {ρ:Env} {w:World}
variable {d:Option Nat} {t T:TypeId} {p:String} {af:Array Edge} {gu:Option (Nat×Bool)} {x y z:Operand}
variable {B:RwB} {e e':TypeId} {L:List Value} {v:Value} {xs:List U8} {i:Int} {el:U8}
theorem QXx {w2:World} {aT:Array TypeId} (hT:aT[0]?=some T) (hu:P.underlying T=some (.slice e)) (hs:Rwo B e' L w2 v xs) (hx:Qo n ρ x=v):Yl P n ρ ⟨d,.call ⟨.builtin .len,#[x],aT⟩,t,p,af,gu⟩ w (.int .i64 xs.length):=by
 obtain ⟨rfl,_⟩:=hs;exact Qks hT hu hx
theorem Qpn {w2:World} {k:IntKind} (hu:P.underlying T=some (.slice e)) (hs:Xl P e 1) (hown:Rwo B e L w2 v xs)
  (hel:idx xs i=some el) (hx:Qo n ρ x=v) (hy:Qo n ρ y=.int k i):Yl P n ρ ⟨d,.indexAddr T x y,t,p,af,gu⟩ w (.pointer (some (YU v i.toNat 1))):=by
 obtain ⟨h0,h1,_⟩:=J9 hel;obtain ⟨rfl,_⟩:=hown;have h2:i < (xs.length:Int):=by omega
 exact Zl (Yn (Qkj _ _ _)) fun w1 _=>by simp [execOp,hx,hy,Instr.indexAt,asIntOf,run_underlying hu,h0,h2,ZE hs,YU]
theorem Qlo {y':U8} {off k:Nat} {u:Value} {vs:List Value} {K:Value->World->Prop} (hs:Xl P T k) (hc:u.cells.toList=vs) (hk:vs.length=k) (hown:Rwo B e L w v xs) (hv:v∈L) (hel:idx xs i=some el)
  (hx:Qo n ρ x=.pointer (some ((YU v i.toNat 1).add off))) (hy:Qo n ρ y=u) (hl:Nat.ble (off+k) 1=true) (h1:∀ c∈vs,c.oneCell'=true)
  (hset:∀ w' cs,Rep.rd (α:=U8) L w' cs el->Rep.rd (α:=U8) L w' (YW cs off vs) y')
  (h:∀ w',Chg [v] w w'->Rwo B e L w' v (xs.set i.toNat y')->K undef w'):Eff P ⟨d,.store T x y,t,p,af,gu⟩ n ρ w K:=by
 obtain ⟨h0,h2,h3⟩:=J9 hel;obtain ⟨rfl,hb⟩:=hown;have hset2:YW [.int .u8 el] off vs=[.int .u8 y']:=hset w [.int .u8 el] rfl;have hl2:off+k<=1:=by simpa using hl
 have hx2:Qo n ρ x=.pointer (some ⟨B.b,B.pre.length+i.toNat+off,none⟩):=by
  rw [hx];show Value.pointer (some ((Addr.add ⟨B.b,B.pre.length,none⟩ (i.toNat * 1)).add off))=_;rw [YK,YK,Eb]
 have hcs:YW (B.pre++ZF xs++B.post) (B.pre.length+i.toNat+off) vs=B.pre++ZF (xs.set i.toNat y')++B.post:=by
  have hlen:(ZF xs).length=xs.length:=Qdo xs;have hsame:∀ u,(B.pre++ZF xs++B.post).set (B.pre.length+i.toNat) u=B.pre++(ZF xs).set i.toNat u++B.post:=fun u=>by
   rw [Ef,List.set_append_right _ _ (Nat.le_add_right _ _),Ek,List.set_append_left _ _ (by omega),Ef]
  match vs,hk with
  | [],hk =>
   have e1:[Value.int .u8 el]=[.int .u8 y']:=hset2;cases e1;have e2:ZF (xs.set i.toNat el)=ZF xs:=by
    rw [show xs.set i.toNat el=xs from by
     obtain ⟨_,e2⟩:=Ea.1 h3;rw [<-e2,List.set_getElem_self]]
   rw [e2];rfl
  | [a],hk =>
   have ho:off=0:=by
    have:k=1:=by rw [<-hk];rfl
    omega
   subst ho;have e1:[a]=[Value.int .u8 y']:=hset2;cases e1;rw [Nat.add_zero,QWf];exact hsame _
  | a::a2::l,hk =>
   have:k=(a::a2::l).length:=hk.symm;simp at this;omega
 refine Je (vs:=vs) (k:=k) hs hc hk hx2 hy hb ?_ h1 hcs fun w' hc' hB=>h w' ⟨hc'.os,hc'.tape,hc'.output,hc'.size,fun b hbl hA=>hc'.block b hbl fun q hq=>?_⟩ ⟨by rw [List.length_set],hB⟩
 ·rw [Nat.ble_eq];simp only [List.length_append,Qdo];omega
 ·rw [Ed] at hq;subst hq;exact (hA _ (Ed.2 rfl):Qt (Value.slice (some ⟨B.b,B.pre.length,none⟩) xs.length B.cap)≠some b)
theorem QYi {e m h b:Nat} (hu:P.underlying T=some (.array m e)) (hs:Xl P e 1) (hh:1<=h/\h<=m) (hx:Qo n ρ x=.pointer (some ⟨b,0,none⟩)) (hy:Qo n ρ y=.int .i64 (h:Int)) :
  Yl P n ρ ⟨d,.slice T x none (some y) none,t,p,af,gu⟩ w (.slice (some ⟨b,0,none⟩) h m):=by
 obtain ⟨h1,h2⟩:=hh;exact Zl (Yn (Qdn _ _ _ _ _)) fun w1 _=>by simp [execOp,hx,hy,Instr.sliceAt,run_underlying hu,Instr.sureAddr,Instr.sliceBounds,Instr.sliceBound,asIntOf,ZE hs,h2,Addr.add]
theorem QEs {e m h:Nat} {b:Nat} (hu:P.underlying T=some (.array m e)) (hs:Xl P e 1) (hh:1<=h/\1+h < m) (hx:Qo n ρ x=.pointer (some ⟨b,0,none⟩)) (hy:Qo n ρ y=.int .i64 ((1+h:Nat):Int)) :
  Yl P n ρ ⟨d,.slice T x (some (.const (.int .i64 1))) (some y) none,t,p,af,gu⟩ w (.slice (some ⟨b,1,none⟩) h (m - 1)):=by
 obtain ⟨h1,h2⟩:=hh;have h0:¬ m=1:=by omega
 have h3:(1:Int)+(h:Int)<=(m:Int):=by omega
 have h4:(0:Int)<=1+(h:Int):=by omega
 have h5:(1+(h:Int)).toNat=1+h:=by omega
 have hc1:Qo n ρ (.const (.int .i64 1))=.int .i64 1:=rfl;have h6:¬ m - 1=0:=by omega
 exact Zl (Yn (Qdn _ _ _ _ _)) fun w1 _=>by
  simp [execOp,hx,hy,hc1,Instr.sliceAt,run_underlying hu,Instr.sureAddr,Instr.sliceBounds,Instr.sliceBound,asIntOf,ZE hs,h0,h3,h4,h5,Addr.add];intro hlt;omega
end
theorem QCs {w:World} {b len cap:Nat} {pre post:List Value} {xs:List U8} {cs:List Value} {T':TypeId} (hb:Box w b cs T') (hcs:cs=pre++ZF xs++post) (hl:xs.length=len) (hlc:len<=cap/\cap<=1000) (hc:pre.length+cap<=cs.length):SlRd (α:=U8) [] w (.slice (some ⟨b,pre.length,none⟩) len cap) xs:=by
 subst hl;refine .inr ⟨b,pre.length,cap,cs.toArray,T',(0,0),rfl,hb,Ec _,hlc.1,by unfold maxLen;omega,by show pre.length+cap * 1<=_;simp;omega,?_⟩;have h1:xs.length * Rep.n U8=xs.length:=Eb _;have h2:(cs.toArray.toList.drop pre.length).take (xs.length * Rep.n U8)=ZF xs:=by
  rw [h1,show cs.toArray.toList=cs from rfl,hcs,Ef,List.drop_left,Eh (by rw [Qdo];exact Ei _),Em (by rw [Qdo];exact Ei _)]
 rw [h2];refine ⟨by rw [Qdo,h1],fun i x hx=>?_⟩;show ((ZF xs).drop (i * 1)).take 1=[.int .u8 x];have h3:=QEa hx;obtain ⟨h4,h5⟩:=Ea.1 h3;rw [Eb,Ej h4,h5];rfl
end Go.Gw

end
