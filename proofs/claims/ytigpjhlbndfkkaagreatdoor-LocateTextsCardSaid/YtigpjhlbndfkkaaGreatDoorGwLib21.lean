/- Laws of the walk. Condition: each theorem says its own. -/
import Derived.Test.YtigpjhlbndfkkaaGreatDoorGwCj6
import Derived.Laws.BytesString
import Derived.MapKept
import Derived.Lib.AppendStr
import Derived.Lib.UnsafeStr
import Derived.Lib.MakeNoZero
import Derived.Lib.Builder
import Derived.Laws.Externs
import GoSem.Extern.BytealgIndexByte
import GoSem.Extern.BytealgCount
set_option linter.unusedVariables false
set_option linter.unusedSimpArgs false
set_option linter.unusedSectionVars false
open Nat renaming mul_one→Ea,le_refl→Eb
section
set_option linter.unusedSectionVars false
namespace Go.Gw
open Go
section
variable {P:Program} [JD P]
end
end Go.Gw

end
section
set_option linter.unusedSectionVars false
namespace Go.Gw
open Go
def YX (s:ByteArray) (lo hi:Int):Option ByteArray:=if 0<=lo/\lo<=hi/\hi<=(s.size:Int) then some (s.extract lo.toNat hi.toNat) else none
theorem Qjf {s t:ByteArray} {lo hi:Int} (h:YX s lo hi=some t):0<=lo/\lo<=hi/\hi<=(s.size:Int)/\t=s.extract lo.toNat hi.toNat:=by
 grind [YX]
def ZA (xs:List U8):List Int:=xs
def X3 (xs:List U8):ByteArray:=(ZA xs).foldl (fun r n=>r.push (UInt8.ofNat n.toNat)) ByteArray.empty
theorem Qmf:∀ (l:List Int) (r:ByteArray),l.foldl (fun r n=>r.push (UInt8.ofNat n.toNat)) r=⟨r.data++(l.map fun n=>UInt8.ofNat n.toNat).toArray⟩
 | [],r=>by simp
 | b::l,r=>by
  simp only [List.map_cons,List.foldl_cons];rw [Qmf l];simp [ByteArray.push]
theorem Qij (xs:List U8):X3 xs=⟨((ZA xs).map fun n=>UInt8.ofNat n.toNat).toArray⟩:=by
 simp_all [Qmf,X3]
theorem Qeu (s:ByteArray):X3 (bl s)=s:=by
 rw [Qij];show (⟨((s.data.toList.map fun b=>((b.toNat:Nat):Int)).map fun n:Int=>UInt8.ofNat n.toNat).toArray⟩:ByteArray)=s;rw [List.map_map];have:((fun n:Int=>UInt8.ofNat n.toNat) ∘ fun b:UInt8=>((b.toNat:Nat):Int))=id:=by
  funext b;simp
 simp_all
theorem Qgt (a b:ByteArray):bl (a++b)=bl a++bl b:=by
 show List.map (fun b:UInt8=>((b.toNat:Nat):Int)) (a++b).data.toList=List.map (fun b:UInt8=>((b.toNat:Nat):Int)) a.data.toList++List.map (fun b:UInt8=>((b.toNat:Nat):Int)) b.data.toList;simp
section
variable {P:Program} [JD P] {n:Nat} {ρ:Env} {w:World}
variable {d:Option Nat} {t T U:TypeId} {p:String} {af:Array Edge} {gu:Option (Nat×Bool)} {x y z:Operand}
theorem Qjw {s r:ByteArray} {k k':IntKind} {lo hi:Int} (hu:P.underlying T=some .string) (h:YX s lo hi=some r) (hx:Qm n ρ x=.string s) (hl:Qm n ρ y=.int k lo) (hh:Qm n ρ z=.int k' hi) :
  Yl P n ρ ⟨d,.slice T x (some y) (some z) none,t,p,af,gu⟩ w (.string r):=by
 obtain ⟨h0,h1,h2,rfl⟩:=Qjf h;refine Yj (XC (JF _ _ _ _ _)) fun w1 _=>?_;have e1:=Qbx (P:=P) (w:=w1) (k:=k') (i:=hi) (y:=s.size) (c:=.sliceAlen) (by omega) (by omega);have e2:=Qbx (P:=P) (w:=w1) (k:=k) (i:=lo) (y:=hi.toNat) (c:=.sliceB) h0 (by omega);simp_all [execOp,Instr.sliceAt,Instr.slice,run_underlying,Instr.sliceBounds]
theorem Qtj {s r:ByteArray} {k':IntKind} {hi:Int} (hu:P.underlying T=some .string) (h:YX s 0 hi=some r) (hx:Qm n ρ x=.string s) (hh:Qm n ρ z=.int k' hi) :
  Yl P n ρ ⟨d,.slice T x none (some z) none,t,p,af,gu⟩ w (.string r):=by
 obtain ⟨h0,h1,h2,rfl⟩:=Qjf h;refine Yj (XC (JF _ _ _ _ _)) fun w1 _=>?_;simp_all [execOp,Instr.sliceAt,Instr.slice,run_underlying,Instr.sliceBounds,Qbx]
theorem Qbf {s r:ByteArray} {k:IntKind} {lo:Int} (hu:P.underlying T=some .string) (h:YX s lo (s.size:Int)=some r) (hx:Qm n ρ x=.string s) (hl:Qm n ρ y=.int k lo) :
  Yl P n ρ ⟨d,.slice T x (some y) none none,t,p,af,gu⟩ w (.string r):=by
 obtain ⟨h0,h1,h2,rfl⟩:=Qjf h;refine Yj (XC (JF _ _ _ _ _)) fun w1 _=>?_;simp_all [execOp,Instr.sliceAt,Instr.slice,run_underlying,Instr.sliceBounds,Qbx]
omit [JD P] in
theorem Qmb {L:List Value} {cs:List Value} {xs:List U8} (h:Elems L w cs xs):cs=(ZA xs).map (Value.int .u8):=by
 obtain ⟨h1,h2⟩:=h;have h1:cs.length=xs.length * 1:=h1;rw [Ea] at h1;apply List.ext_getElem?;intro i;rcases Nat.lt_or_ge i xs.length with hi | hi
 ·have hx:xs[i]?=some xs[i]:=List.getElem?_eq_getElem hi;have h3:(cs.drop (i * 1)).take 1=[.int .u8 xs[i]]:=h2 i _ hx;have h4:((cs.drop (i * 1)).take 1)[0]?=some (.int .u8 xs[i]):=by rw [h3];rfl
  rw [Ea,List.getElem?_take_of_lt (by omega),List.getElem?_drop,Nat.add_zero] at h4;rw [h4];rw [List.getElem?_map];have hx':(ZA xs)[i]?=some (xs[i]:Int):=hx
  grind
 ·rw [List.getElem?_eq_none (by omega),List.getElem?_eq_none (by rw [List.length_map];exact hi)]
omit [JD P] in
theorem QFd {L:List Value} {v:Value} {xs:List U8} (h:SlRd L w v xs):(Conv.bytesToString v).run P w=.ok (.string (X3 xs)) w:=by
  rcases h with ⟨a0,rfl,rfl⟩ | ⟨b,off,cap,cur,e,fz,rfl,hb,hA,h4,h5,h6,h7⟩
  · cases a0 with
    | none=>rfl
    | some a=>rfl
  · have e1:=Qmb h7;have e2:Rep.n U8=1:=rfl;rw [e2,Ea] at e1;refine run_bytesToString (P:=P) w ⟨b,off,none⟩ xs.length cap (ZA xs) ?_;have hl:=run_loadCells_list (P:=P) w ⟨b,off,none⟩ ((ZA xs).map (Value.int .u8)) (fun j v hj=>by
      rw [<-e1] at hj;refine (At.of_block hb (cs:=(cur.toList.drop off).take xs.length) (fun j v hv=>?_)).2 j v hj
      grind)
    grind
omit [JD P] in
theorem QHh (v:Value):Tame P (Conv.bytesToString v):=by
 unfold Conv.bytesToString;split
 ·exact .pure _
 ·refine .bnd (Qjl _ _) fun cells=>.bnd ?_ fun s=>.pure _;rw [<-Array.forIn_toList];refine Qfq _ (fun a b=>?_) _ _;split
  ·exact .pure _
  ·exact X5 _
 ·exact X5 _
theorem Qjr {e:TypeId} {L:List Value} {v:Value} {xs:List U8} (hu:P.underlying T=some (.slice e)) (he:P.underlying e=some (.int .u8)) (hU:P.underlying U=some .string) (hs:SlRd L w v xs) (hx:Qm n ρ x=v) :
  Yl P n ρ ⟨d,.convert T U x,t,p,af,gu⟩ w (.string (X3 xs)):=by
 obtain ⟨a,cap,rfl,_⟩:=hs.shape;refine Yj (XC (by
  rw [hx];unfold convert;exact .und hu (.und hU (.und he (QHh _))))) fun w1 e1=>?_
 simp [execOp,hx,run_convert_bytes_string w1 T U e a xs.length cap hu he hU,QFd (P:=P) (hs.ext e1)]
end
end Go.Gw
namespace Go.Gw
open Go
section
variable {P:Program} [JD P] {n:Nat} {ρ:Env} {w:World}
variable {d:Option Nat} {t T U:TypeId} {p:String} {af:Array Edge} {gu:Option (Nat×Bool)} {x y z:Operand}
variable {ps rs:Array TypeId} {va:Bool} {f:Fn} {a c:Array Value}
end
end Go.Gw

end
section
set_option linter.unusedSectionVars false
namespace Go.Gw
open Go
theorem Qes {v:Value} {w:World}:∀ b,Qv v=some b->Jb [v] w b:=fun _ hb=>.inr (Qaw (List.mem_cons_self ..) hb)
section
variable {P:Program} [JD P] {n:Nat} {ρ:Env} {w:World}
variable {d:Option Nat} {t T U I:TypeId} {p:String} {af:Array Edge} {gu:Option (Nat×Bool)} {x y z:Operand}
theorem Qtb {e:TypeId} {aT:Array TypeId} (ha:aT[0]?=some T) (hu:P.underlying T=some (.slice e)) (hx:Qm n ρ x=.slice none 0 0):Yl P n ρ ⟨d,.call ⟨.builtin .cap,#[x],aT⟩,t,p,af,gu⟩ w (.int .i64 0):=Xn fun w es=>by
 simp [execOp,resolve,invoke,builtin,Builtin.cap_,ha,hx,run_underlying hu,goInt]
theorem Qai {f:FuncId} {fn:Func} {c:Code} {args:List Value} {rs:List ResultVar} {Φ:Value->World->Prop} (hf:P.funcs[f]?=some fn) (hb:fn.body=some c) (hn:fn.ntmps=n) (hl:Nat.ble args.length n=true)
    (hr:fn.results=rs.toArray) (hm:YS rs n=true)
    (h:WC P n c ⟨fun ρ w=>∃ vs,Jq P ρ w rs vs/\Φ (ZX vs) w,fun _ _ _=>False,fun ρ w=>∃ vs,Jq P ρ w rs vs/\Φ (ZX vs) w⟩ (fun i=>args.getD i undef) w):CallsTo P f args w Φ:=by
  refine Qlg hf hb ?_;have hl:args.length<=n:=by simpa using hl
  rw [hn];have:=Qhe args n hl;rw [this];refine Qbd h fun e a w he=>?_;cases e<;>first
    | exact he.elim
    | (obtain ⟨_,_,hf⟩:=he;exact hf.elim)
    | (obtain ⟨ρ, rfl, vs, hv, hΦ⟩ := he
       exact ⟨rfl,Qjo hr hm hv,_,fun w1 r=>Qiv hr hm r hv,hΦ⟩)
end
end Go.Gw

end
section
set_option linter.unusedSectionVars false
namespace Go.Gw
open Go Go.MapKept
section
variable {w w':World} {b:Nat} {ks:List ByteArray} {k:ByteArray}
end
section
variable {P:Program} {W:World} {ev:Array Event} {r cl:Nat} {es:Array MapEntry} {T kt et:TypeId}
theorem Qql {W:World} {ev:Array Event} {r:Nat} {o:Obj} (hb:W.heap[r]?=some o) (hr:∀ cs e fz,o≠.cells cs e fz) (hc:o.isChan=false):(getObj r).runT P W ev=(.ok o W,ev.push ⟨.obj r,false,false⟩):=by
 show (Sem.getObj r .pure).runT P W ev=_
 grind [absurd,Sem.runT]
theorem QEv {W:World} {ev:Array Event} {r:Nat} {o o':Obj} (hb:W.heap[r]?=some o) (hr:∀ cs e fz,o≠.cells cs e fz) (hc:o'.isChan=false):(setObj r o').runT P W ev=(.ok () { W with heap:=W.heap.setIfInBounds r o' },ev.push ⟨.obj r,true,false⟩):=by
 show (Sem.setObj r o' (.pure ())).runT P W ev=_
 grind [Sem.runT]
end
section
variable {P:Program} [JD P] {n:Nat} {ρ:Env} {w w':World}
variable {d:Option Nat} {t T U kt et:TypeId} {p:String} {af:Array Edge} {gu:Option (Nat×Bool)} {x y z:Operand} {b:Nat} {ks:List ByteArray} {k:ByteArray}
theorem Qhf {α β:Type} {m:Sem α} {f:α->β} (h:Fr P m w):Fr P (m >>= fun a=>Pure.pure (f a)) w:=by
 intro w1 r F Z W es es' r' w' hA hv hr;rw [show (m >>= fun a=>Pure.pure (f a))=m.bind (fun a=>Pure.pure (f a)) from rfl,Go.Sem.runT_bind'] at hr;generalize hx:m.runT P w1 es=q at hr;obtain ⟨q1,q2⟩:=q;cases q1 with
 | halt h' w2=>cases hr
 | ok a w2 =>
  have hr:((.ok (f a) w2:Result β),q2)=(.ok r' w',es'):=hr;cases hr;obtain ⟨F',W',us,h1,h2⟩:=h w1 r hA hv hx;refine ⟨F',W',us,?_,h2⟩;simp_all
end
end Go.Gw

end
section
set_option linter.unusedSectionVars false
set_option linter.unusedVariables false
namespace Go.Gw
open Go
section
variable {P:Program} {α β:Type} {w:World}
theorem EvOk.more {F F' Z:Nat->Prop} {e:Event} (h:EvOk F Z e) (hF:∀ b,F b->F' b):EvOk F' Z e:=h.imp (fun ⟨a,h1,h2,h3,h4⟩=>⟨a,h1,h2,hF _ h3,h4⟩) id
theorem Qbn {m:Sem α} {f:α->Sem β} (h:YU P m w) (hf:∀ a w',m.run P w=.ok a w'->YU P (f a) w'):YU P (m >>= f) w:=by
 intro F Z W es es' r w' hA hv hr;rw [show (m >>= f)=m.bind f from rfl,Go.Sem.runT_bind'] at hr;generalize hx:m.runT P w es=x at hr;obtain ⟨x1,x2⟩:=x;cases x1 with
 | halt h w1=>cases hr
 | ok a w1 =>
  have hr:(f a).runT P w1 x2=(.ok r w',es'):=hr;obtain ⟨F1,W1,us1,k1,k2,k3,k4,k5⟩:=h hA hv hx;obtain ⟨F2,W2,us2,l1,l2,l3,l4,l5⟩:=hf a w1 (by simp_all) k2.agr k3 hr;refine ⟨F2,W2,us1++us2,?_,k2.trans l2,l3,by simp_all,fun e he=>?_⟩
  ·simp_all
  ·rcases Array.mem_append.1 he with he | he
   ·exact (k5 e he).more l2.more
   simp_all
theorem Qeb (a:α):YU P (Pure.pure a:Sem α) w:=(Tame.pure a).fr0
theorem Qgl {F Z:Nat->Prop} {w W:World} (h:Agr F Z w W) {b:Nat} {cs:Array Value} {e:TypeId} {fz:Nat×Nat} (hb:w.heap[b]?=some (.cells cs e fz)) (h0:0 < cs.size):F b:=Classical.byContradiction fun hn=>by
 have h2:=Option.some.inj (hb.symm.trans (h.hid b hn (Jx hb)));cases h2
theorem Qty {F Z:Nat->Prop} {w W:World} (h:Agr F Z w W) {b:Nat} {cs:Array Value} {e:TypeId} (hb:w.heap[b]?=some (.cells cs e (0,0))) (h0:0 < cs.size):F b/\¬ Z b/\W.heap[b]?=some (.cells cs e (0,0)):=by
 have hF:=Qgl h hb h0;have hz:¬ Z b:=fun hz=>by
  obtain ⟨cs',e',fz,h1,_⟩:=h.shr b hF hz
  grind
 exact ⟨hF,hz,(h.own b hF hz).trans hb⟩
theorem Qya {b:Nat} {cs:Array Value} {e:TypeId} {fz:Nat×Nat} (hb:w.heap[b]?=some (.cells cs e fz)) (h0:0 < cs.size):YU P (shape b) w:=by
 intro F Z W es es' r w' hA hv hr;have hF:=Qgl hA hb h0;have hW:∃ fz',W.heap[b]?=some (.cells cs e fz'):=by
  rcases Classical.em (Z b) with hz | hz
  ·obtain ⟨cs',e',fz',h1,h2⟩:=hA.shr b hF hz;simp_all
  ·exact ⟨fz,(hA.own b hF hz).trans hb⟩
 obtain ⟨fz',hW⟩:=hW;have h1:∀ (W:World) (fz:Nat×Nat) (es:Array Event),W.heap[b]?=some (.cells cs e fz)->(shape b).runT P W es=(.ok (some (e,cs.size)) W,es):=fun W fz es hW=>by
  simp_all [Sem.runT,World.shape?,Sem.shape,pure,runT]
 rw [h1 w fz es hb] at hr;cases hr;exact ⟨F,W,#[],h1 W fz' es hW,⟨hA,fun _ x=>x,fun _ x=>.inl x,Eb _,fun _ _ _=>rfl,rfl,rfl,rfl⟩,hv,by simp,by simp⟩
theorem QFg {b:Nat} {cs:Array Value} {e:TypeId} {fz:Nat×Nat} (hb:w.heap[b]?=some (.cells cs e fz)):(shape b).run P w=.ok (some (e,cs.size)) w:=by
 simp_all [Sem.run,World.shape?,Sem.shape,pure]
theorem JU {w:World} {a:Addr} {m b:Nat} (hm:m≠0):(w.freeze a m).heap[b]?=if b=a.block then (w.heap[b]?).map (fun o=>match o with | .cells c elem (lo,hi)=>.cells c elem (if lo == hi then (a.off,a.off+m) else (min lo a.off,max hi (a.off+m))) | o=>o) else w.heap[b]?:=by
 unfold World.freeze
 grind
theorem Qdi {w:World} {a:Addr} {m:Nat}:(w.freeze a m).heap.size=w.heap.size:=by grind [World.freeze]
theorem same_freeze {w:World} {a:Addr} {m:Nat}:(w.freeze a m).tape=w.tape/\(w.freeze a m).drawn=w.drawn/\(w.freeze a m).os=w.os/\(w.freeze a m).output=w.output:=by grind [World.freeze]
theorem Qtw {F Z:Nat->Prop} {w W:World} (h:Agr F Z w W) {a:Addr} {m:Nat} (hm:m≠0) (hF:F a.block) (hz:¬ Z a.block):Agr F Z (w.freeze a m) (W.freeze a m) where
 tape:=by rw [same_freeze.1,same_freeze.1,h.tape]
 drawn:=by rw [same_freeze.2.1,same_freeze.2.1,h.drawn]
 os:=by rw [same_freeze.2.2.1,same_freeze.2.2.1,h.os]
 output:=by rw [same_freeze.2.2.2,same_freeze.2.2.2,h.output]
 size:=by rw [Qdi,Qdi,h.size]
 own:=fun b hb hzb=>by rw [JU hm,JU hm,h.own b hb hzb]
 shr:=fun b hb hzb=>by
  have hne:b≠a.block:=fun e=>hz (e▸hzb)
  rw [JU hm,JU hm,if_neg hne,if_neg hne];exact h.shr b hb hzb
 hid:=fun b hb hlt=>by
  have hne:b≠a.block:=fun e=>hb (e▸hF)
  rw [JU hm,if_neg hne];exact h.hid b hb (by grind [Qdi])
 zf:=h.zf
theorem QDf {w:World} {a:Addr} {m:Nat} (hm:m≠0) (h:YJ w):YJ (w.freeze a m):=fun b x u e=>by
 rw [JU hm] at e;split at e
 ·cases hb:w.heap[b]? with
  | none=>simp_all
  | some o =>
   rw [hb] at e;cases o<;>simp at e
   rename_i x' u';exact h b x' u' hb
 ·exact h b x u e
theorem Qxx {a:Addr} {m:Nat} {cs:Array Value} {e:TypeId} (hm:m≠0) (hb:w.heap[a.block]?=some (.cells cs e (0,0))) (h0:0 < cs.size):YU P (freeze a m) w:=by
 intro F Z W es es' r w' hA hv hr;obtain ⟨hF,hz,hW⟩:=Qty hA hb h0;have h1:∀ (W:World) (es:Array Event),(freeze a m).runT P W es=(.ok () (W.freeze a m),es):=fun W es=>rfl
 rw [h1] at hr;cases hr;refine ⟨F,W.freeze a m,#[],h1 W es,⟨Qtw hA hm hF hz,fun _ x=>x,fun _ x=>.inl x,by rw [Qdi];omega,fun b hb hk=>?_,same_freeze.1,same_freeze.2.2.1,same_freeze.2.2.2⟩,QDf hm hv,by simp,by simp⟩;rw [JU hm,if_neg (fun e=>by simp_all)]
end
end Go.Gw

end
section
set_option linter.unusedSectionVars false
set_option linter.unusedVariables false
namespace Go.Gw
open Go
def Z5 (v:Value):Prop:=∀ a m,v≠.slice (some a) m 0
section
variable {P:Program} [JD P] {n:Nat} {ρ:Env} {w w':World}
variable {d:Option Nat} {t T U I:TypeId} {p:String} {af:Array Edge} {gu:Option (Nat×Bool)} {x y z:Operand}
omit [JD P] in
theorem QHd {e:TypeId} (hu:P.underlying T=some (.slice e)) (hU:P.underlying U=some .string) (t:TypeId) (v x:Value):Tame P (Builtin.append_ #[T,U] t #[v,x]):=by
 unfold Builtin.append_;dsimp only [List.getElem?_toArray,List.getElem?_cons_zero,List.getElem?_cons_succ];refine .und hu ?_;dsimp only;split
 ·refine .bnd (Zy _) fun size=>.und hU ?_;simp only [Bool.false_eq_true,if_false,Bool.not_false,if_true,false_or,pure_bind];refine .bnd (Qjj _) fun n=>?_;refine Zo (.bnd (Qbb _ _ _) fun new=>?_) (.bnd (JG _) fun i1=>Zo (.bnd (J9 _) fun _=>?_) ?_)
  ·split<;>first | exact .bnd (Qcc _ _ _) fun _=>.pure _ | exact .pure _
  all_goals
   refine .bnd (JG _) fun i2=>Zo (.bnd (.doom _ (Qlt fun b=>?_)) fun _=>?_) ?_
   ·simp
   all_goals exact .bnd (Qca _) fun _=>.bnd (JG _) fun _=>.bnd (Qfn _) fun _=>.bnd (Qbb _ _ _) fun _=>.bnd (Qbb _ _ _) fun _=>.bnd (Qcd _) fun _=>.bnd (Qcb _ _) fun _=>.pure _
 ·exact X5 _
omit [JD P] in
theorem Qrq (s:ByteArray):Lib.strCells s=(ZA (bl s)).map (Value.int .u8):=by
 show List.map (fun b:UInt8=>Value.int .u8 b.toNat) s.data.toList=List.map (Value.int .u8) (List.map (fun b:UInt8=>((b.toNat:Nat):Int)) s.data.toList);simp
omit [JD P] in
theorem Qma (L:List Value) (w:World) (s:ByteArray):Elems L w (Lib.strCells s) (bl s):=by
 refine ⟨by rw [Lib.strCells_length,YZ];exact (Ea _).symm,fun i x hx=>?_⟩;show ((Lib.strCells s).drop (i * 1)).take 1=[.int .u8 x];have h1:(Lib.strCells s)[i]?=some (.int .u8 x):=by
  rw [Qrq,List.getElem?_map];show Option.map (Value.int .u8) ((bl s)[i]?)=_;exact congrArg (Option.map (Value.int .u8)) hx
 rw [Ea]
 grind [List.drop_eq_getElem_cons,List.getElem?_eq_some_iff]
omit [JD P] in
theorem QFa {e:TypeId} {zz:Value} {L:List Value} {v:Value} {xs:List U8} {s:ByteArray} (hu:P.underlying T=some (.slice e)) (hU:P.underlying U=some .string) (hi:EInfo P e 1 1 zz) (hz:zz=.int .u8 0)
    (hown:Own e (v::L) w v xs) (hrm:Z5 v) (hb:xs.length+s.size<=140737488355328) (hm:xs.length+s.size<=maxLen) :
    ∃ v' w',(Builtin.append_ #[T,U] t #[v,.string s]).run P w=.ok v' w'/\Chg [v] w w'/\(∀ b,Qv v'=some b->Qv v=some b\/w.heap.size<=b)/\Own e (v'::L) w' v' (xs++bl s)/\Z5 v':=by
  subst hz;obtain ⟨i,h1,h2,h3,h4,h5,h6⟩:=hi.ex;obtain ⟨cells,ho,hel⟩:=hown;obtain ⟨v',w',hr,ho',hg,hnil⟩:=Lib.run_append_own_string (P:=P) w 0 T U t e i hu hU h1 h4 h2 h3 v xs.length cells ho s hm hb (Nat.zero_le _);have hc:Chg [v] w w':=Chg.of_grown hg;have hlen:(xs++bl s).length=xs.length+s.size:=by rw [List.length_append,YZ]
  have key:(∀ b,Qv v'=some b->Qv v=some b\/w.heap.size<=b)/\Z5 v':=by
    rcases ho.2 with ⟨hh,h0⟩ | ⟨g,cap',cur',hh,_,hg',h4',hcm',hcs,htake⟩
    · have hown2:w.ownsRow w.heap.size e 1 v xs.length cells:=⟨ho.1,.inl ⟨hh,h0⟩⟩;obtain ⟨v2,w2,hr2,ho2,_,hnil2⟩:=Lib.run_append_own_string (P:=P) w w.heap.size T U t e i hu hU h1 h4 h2 h3 v xs.length cells hown2 s hm hb (Eb _);rw [hr] at hr2;cases hr2;refine ⟨fun k hk=>?_,fun a m hv=>?_⟩
      · have hw : v'.ownBlock = some k := by
          rcases ho2.2 with ⟨hh,_⟩ | ⟨g2,_,_,hh,_⟩<;>subst hh
          · cases hk
          · exact hk
        exact .inr (ho2.lt k hw).1
      · rcases ho2.2 with ⟨hh',h0'⟩ | ⟨g2,cap2,cur2,hh',_,_,h42,_⟩
        · simp_all
        simp_all
    · subst hh;have hcap:cap'≠0:=fun e=>hrm ⟨g,0,none⟩ xs.length (by rw [e])
      by_cases hroom:xs.length+s.size<=cap'
      · have hcs':cur'.size=cap':=by simpa [Rep.n] using hcs
        have hr2:=Lib.run_append_room_string (P:=P) w T U t e i hu hU h1 h2 g xs.length cap' cur' hg' s hroom (by omega);rw [hr] at hr2;cases hr2;exact ⟨fun k hk=>.inl hk,fun a m hv=>by grind⟩
      · have holds:∀ j u,cells[j]?=some u->w.cell? ((⟨g,0,none⟩:Addr).add j)=some u:=World.ownsRow.cells ho (g:=g) rfl;have hr2:=Lib.run_append_grow_string (P:=P) w T U t e i _ hu hU h1 h4 ⟨g,0,none⟩ xs.length cap' cells (by rw [h2];exact ho.1) holds s (by omega) (by omega) (growslice_fits (by omega) (by grind));rw [hr] at hr2;cases hr2;refine ⟨fun k hk=>.inr ?_,fun a m hv=>?_⟩
        · grind [Qv]
        grind [grownCap_ge]
  refine ⟨v',w',hr,hc,key.1,⟨cells++Lib.strCells s,?_,?_⟩,key.2⟩
  · rw [hlen];exact ho'
  · exact (hel.step (Stepp.swap hc key.1)).append (Qma _ _ _)
theorem Qvh {e:TypeId} {zz:Value} {L:List Value} {v:Value} {xs zs:List U8} {s:ByteArray} {K:Value->World->Prop} {aT:Array TypeId} (hu:P.underlying T=some (.slice e)) (hU:P.underlying U=some .string) (hi:EInfo P e 1 1 zz) (hz:zz=.int .u8 0)
  (hT:aT=#[T,U]) (hx:Qm n ρ x=v) (hy:Qm n ρ y=.string s) (hown:Own e (v::L) w v xs) (hrm:Z5 v) (hm:Xz xs (bl s)=some zs)
  (h:∀ v' w',Chg [v] w w'->(∀ b,Qv v'=some b->Qv v=some b\/w.heap.size<=b)->Own e (v'::L) w' v' zs->Z5 v'->K v' w'):Eff P ⟨d,.call ⟨.builtin .append,#[x,y],aT⟩,t,p,af,gu⟩ n ρ w K:=by
 subst hT;obtain ⟨hb,rfl⟩:xs.length+s.size<=1073741824/\zs=xs++bl s:=by
  grind [YZ,Option.some.inj,Xz]
 have e0:execOp (Qm n ρ) ⟨d,.call ⟨.builtin .append,#[x,y],#[T,U]⟩,t,p,af,gu⟩=(Builtin.append_ #[T,U] t #[v,.string s] >>= fun v=>Pure.pure (Next.value v)):=by
  simp [execOp,resolve,invoke,builtin,hx,hy]
 refine ZE (by grind [XC,QHd]) fun w1 e1=>?_;rw [e0];obtain ⟨v',w',hr,hc,hbl,ho,hrm'⟩:=QFa (P:=P) (t:=t) hu hU hi hz (hown.step (Stepp.ext e1) e1 (fun _ _=>Avoids.nil _)) hrm (s:=s) (by omega) (by unfold maxLen;omega);simp only [Sem.run_bind,hr,Result.andThen,Sem.run_pure,effR];exact h v' w' ((e1.mono (fun _ h=>by cases h)).trans hc) (fun b hb=>(hbl b hb).imp id fun h=>Nat.le_trans e1.size h) ho hrm'
def ZU:Value->Value
 | .slice (some a) _ _=>.pointer (some a)
 | _=>.pointer none
omit [JD P] in
theorem Own.nilOr {α:Type} [Rep α] {e:TypeId} {L:List Value} {v:Value} {xs:List α} (h:Own e L w v xs):v=.slice none 0 0/\xs=[]\/∃ g cap cur,v=.slice (some ⟨g,0,none⟩) xs.length cap/\w.heap[g]?=some (.cells cur e (0,0))/\xs.length<=cap/\cap<=maxLen/\cur.size=cap * Rep.n α/\Elems L w (cur.toList.take (xs.length * Rep.n α)) xs:=by
 obtain ⟨cells,ho,hel⟩:=h;rcases ho.2 with ⟨hh,h0⟩ | ⟨g,cap',cur',hh,_,hg',h4',hcm',hcs,htake⟩
 ·simp_all
 grind
theorem QJx {e:TypeId} {L:List Value} {v:Value} {xs:List U8} {aT:Array TypeId} (hown:Own e L w v xs) (hrm:Z5 v) (hx:Qm n ρ x=v):Yl P n ρ ⟨d,.call ⟨.builtin .unsafeSliceData,#[x],aT⟩,t,p,af,gu⟩ w (ZU v):=Xn fun w es=>by
 rcases hown.nilOr with ⟨rfl,_⟩ | ⟨g,cap,cur,rfl,_⟩
 ·have hd:∀ ts,Builtin.unsafeSliceData_ ts t #[.slice none 0 0]=Pure.pure (.pointer none):=fun _=>rfl
  simp [execOp,resolve,invoke,builtin,hx,hd,ZU]
 ·have:cap≠0:=fun h=>hrm _ _ (by rw [h])
  obtain ⟨k,rfl⟩:∃ k,cap=k+1:=⟨cap - 1,by omega⟩;have hd:∀ ts,Builtin.unsafeSliceData_ ts t #[.slice (some ⟨g,0,none⟩) xs.length (k+1)]=Pure.pure (.pointer (some ⟨g,0,none⟩)):=fun _=>rfl
  simp [execOp,resolve,invoke,builtin,hx,hd,ZU]
omit [JD P] in
theorem QHm (a:Addr):∀ (m:Nat) (acc:ByteArray),Tame P (loadBytes a acc m):=by
 intro m
 induction m generalizing a with
 | zero=>intro acc;exact .pure _
 | succ m ih =>
  intro acc;unfold loadBytes;refine .bnd (Qjk _) fun v=>?_
  grind [X5]
omit [JD P] in
theorem Qqu:∀ (l:List Int) (a:Addr) (acc:ByteArray),(∀ j x,l[j]?=some x->w.cell? (a.add j)=some (.int .u8 x)) ->
  (loadBytes a acc l.length).run P w=.ok ⟨acc.data++(l.map fun n=>UInt8.ofNat n.toNat).toArray⟩ w
 | [],a,acc,_=>by rfl
 | x::l,a,acc,h=>by
  have h0:w.cell? a=some (.int .u8 x):=by
   have:=h 0 x rfl;trivial
  have ih:=Qqu l (a.add 1) (acc.push (UInt8.ofNat x.toNat)) (fun j y hy=>by
   have:=h (j+1) y (by grind)
   grind [Addr.add])
  simp_all [ByteArray.push,ByteArray.ext,Eq.trans,List.length_cons,loadBytes,Sem.run_bind,run_load,Result.andThen]
omit [JD P] in
theorem QIg (pt it ty:TypeId) (q:Option Addr):Builtin.unsafeString_ #[pt,it] ty #[.pointer q,.int .i64 0]=Pure.pure (.string .empty):=by
 cases q<;>rfl
omit [JD P] in
theorem Qsr (pt it ty:TypeId) (a:Addr) (l:Nat) (h0:l≠0) (h1:l<=9223372036854775807):Builtin.unsafeString_ #[pt,it] ty #[.pointer (some a),.int .i64 l] =
    (elemOf pt >>= fun e => variablesAt a e l >>= fun ok => if ok = true then loadBytes a .empty l >>= fun s => freeze a l >>= fun _ => Pure.pure (.string s) else unsupported (.unsafePointer "String: not so many bytes at ptr")) := by
  have hdef : Builtin.unsafeString_ #[pt, it] ty #[.pointer (some a), .int .i64 l] =
      (do
        let n <-asInt (.int .i64 l)
        if n < 0 then runtimePanic (.error "unsafe.String: len out of range")
        if n > IntKind.i64.max then unsupported (.unsafePointer "String: a length above the largest int")
        if n=0 then Pure.pure (.string .empty)
        else if <-variablesAt a (<-elemOf pt) n.toNat then do
          let s <-loadBytes a .empty n.toNat
          freeze a n.toNat
          Pure.pure (.string s)
        else unsupported (.unsafePointer "String: not so many bytes at ptr")) := rfl
  have hmax:IntKind.i64.max=9223372036854775807:=rfl;have g1:¬ (l:Int) < 0:=by omega
  have g2:¬ (l:Int) > IntKind.i64.max:=by omega
  simp_all [asInt,asIntOf,pure_bind,if_neg,Int.toNat_natCast,Int]
omit [JD P] in
theorem Qqw {e it ty pt:TypeId} {zz:Value} {L:List Value} {v:Value} {xs:List U8} (hp:P.underlying pt=some (.pointer e)) (hi:EInfo P e 1 1 zz) (hown:Own e L w v xs) :
    YU P (Builtin.unsafeString_ #[pt,it] ty #[ZU v,.int .i64 xs.length]) w/\∃ w',(Builtin.unsafeString_ #[pt,it] ty #[ZU v,.int .i64 xs.length]).run P w=.ok (.string (X3 xs)) w'/\Chg [v] w w':=by
  by_cases h0:xs.length=0
  · have hx:xs=[]:=List.eq_nil_of_length_eq_zero h0;have h1:∃ q,ZU v=.pointer q:=by
      rcases hown.nilOr with ⟨rfl,_⟩ | ⟨g,cap,cur,rfl,_⟩
      · exact ⟨_,rfl⟩
      · exact ⟨_,rfl⟩
    obtain ⟨q,hq⟩:=h1;rw [hq,hx];rw [show ((([]:List U8).length:Nat):Int)=0 from rfl,QIg];exact ⟨Qeb _,w,rfl,Chg.refl _ _⟩
  · rcases hown.nilOr with ⟨_,hx⟩ | ⟨g,cap,cur,rfl,hg,hle,hcm,hsz,hel⟩
    · simp_all
    have hsz:cur.size=cap:=by rw [hsz];exact Ea _
    have hel:Elems L w (cur.toList.take xs.length) xs:=by
      simp_all [Rep.n,U8,Ea]
    have hpos:0 < cur.size:=by omega
    obtain ⟨i,i1,i2,i3,i4,i5,i6⟩:=hi.ex;have hc1:P.cellsOf e=1:=by simp [Program.cellsOf,i1,i2]
    have h63:xs.length<=9223372036854775807:=by grind [maxLen]
    have hcells:=Qmb hel;have hcell:∀ j y,(ZA xs)[j]?=some y->w.cell? ((⟨g,0,none⟩:Addr).add j)=some (.int .u8 y):=fun j y hy=>by
      have h1:(cur.toList.take xs.length)[j]?=some (.int .u8 y):=by grind
      grind [World.cell?,X2,List.getElem?_take_of_lt,List.getElem?_eq_some_iff]
    have hlies:=Lib.liesAt_bytes (P:=P) hc1 (cur.size / P.cellsOf e) xs.length (by grind);have e1:(elemOf pt).run P w=.ok e w:=by simp [elemOf,run_underlying hp]
    have e2:(variablesAt ⟨g,0,none⟩ e xs.length).run P w=.ok true w:=by simp [variablesAt,World.shape?,hg,hlies]
    have e3:(loadBytes ⟨g,0,none⟩ .empty xs.length).run P w=.ok (X3 xs) w:=by
      have:=Qqu (P:=P) (ZA xs) ⟨g,0,none⟩ .empty hcell;rw [Qij];refine Eq.trans this ?_;simp
    refine ⟨?_,w.freeze ⟨g,0,none⟩ xs.length,?_,?_⟩
    · show YU P (Builtin.unsafeString_ #[pt,it] ty #[.pointer (some ⟨g,0,none⟩),.int .i64 xs.length]) w;rw [Qsr _ _ _ _ _ h0 h63];have hsh:YU P (shape g) w:=Qya hg hpos;have hva:YU P (variablesAt ⟨g,0,none⟩ e xs.length) w:=by
        unfold variablesAt;refine Qbn (Tame.program _ (.pure _)).fr0 fun P' w1 hr1=>?_;cases hr1
        grind [Qeb,QFg,Qbn]
      have hea:YU P (elemOf pt) w:=(Qsb _).fr0;have hla:YU P (loadBytes ⟨g,0,none⟩ .empty xs.length) w:=(QHm _ _ _).fr0;have hfa:YU P (freeze ⟨g,0,none⟩ xs.length) w:=Qxx (a:=⟨g,0,none⟩) h0 hg hpos;refine @Qbn P _ _ w _ _ hea ?_;intro e' w1 hr1;rw [e1] at hr1;cases hr1;refine @Qbn P _ _ w _ _ hva ?_;intro ok w1 hr1;rw [e2] at hr1;cases hr1;rw [if_pos rfl]
      grind [Qeb,Qbn]
    · show (Builtin.unsafeString_ #[pt,it] ty #[.pointer (some ⟨g,0,none⟩),.int .i64 xs.length]).run P w=_;rw [Qsr _ _ _ _ _ h0 h63];simp only [Sem.run_bind,e1,e2,e3,Result.andThen,if_true];rfl
    · refine ⟨same_freeze.2.2.1,same_freeze.1,same_freeze.2.2.2,by rw [Qdi];omega,fun b hb hA=>?_⟩;rw [JU h0,if_neg];intro e;subst e;exact absurd rfl (hA _ (List.mem_cons_self ..))
theorem Qlx {e it pt:TypeId} {zz:Value} {L:List Value} {v:Value} {xs:List U8} {K:Value->World->Prop} {aT:Array TypeId} (hT:aT=#[pt,it]) (hp:P.underlying pt=some (.pointer e)) (hi:EInfo P e 1 1 zz) (hx:Qm n ρ x=ZU v) (hy:Qm n ρ y=.int .i64 xs.length)
  (hown:Own e L w v xs) (h:∀ w',Chg [v] w w'->K (.string (X3 xs)) w'):Eff P ⟨d,.call ⟨.builtin .unsafeString,#[x,y],aT⟩,t,p,af,gu⟩ n ρ w K:=by
 subst hT;have e0:execOp (Qm n ρ) ⟨d,.call ⟨.builtin .unsafeString,#[x,y],#[pt,it]⟩,t,p,af,gu⟩=(Builtin.unsafeString_ #[pt,it] t #[ZU v,.int .i64 xs.length] >>= fun v=>Pure.pure (Next.value v)):=by
  simp [execOp,resolve,invoke,builtin,hx,hy]
 refine ⟨fun w1 r=>?_,.inr fun w1 r=>?_⟩
 ·rw [e0];exact Qbn (Qqw hp hi (hown.step (Stepp.ext r.ext) r.ext (fun _ _=>Avoids.nil _))).1 fun _ _ _=>Qeb _
 ·rw [e0];obtain ⟨w',hr,hc⟩:=(Qqw (P:=P) (it:=it) (ty:=t) hp hi (hown.step (Stepp.ext r.ext) r.ext (fun _ _=>Avoids.nil _))).2;simp only [Sem.run_bind,hr,Result.andThen,Sem.run_pure,effR];exact h w' ((r.ext.mono (fun _ h=>by cases h)).trans hc)
end
end Go.Gw

end
section
set_option linter.unusedSectionVars false
set_option linter.unusedVariables false
namespace Go.Gw
open Go
section
variable {P:Program} {α:Type} {w:World} {b:Nat} {cs:Array Value} {e:TypeId}
theorem Qmg {m:Sem α} {r:α} {fz:Nat×Nat} (hb:w.heap[b]?=some (.cells cs e fz)) (h0:0 < cs.size) (h:∀ (W:World) (es:Array Event) fz,W.heap[b]?=some (.cells cs e fz)->m.runT P W es=(.ok r W,es)):YU P m w:=by
 intro F Z W es es' r' w' hA hv hr;have hF:=Qgl hA hb h0;have hW:∃ fz',W.heap[b]?=some (.cells cs e fz'):=by
  rcases Classical.em (Z b) with hz | hz
  ·obtain ⟨cs',e',fz',h1,h2⟩:=hA.shr b hF hz;simp_all
  ·exact ⟨fz,(hA.own b hF hz).trans hb⟩
 obtain ⟨fz',hW⟩:=hW;rw [h w es fz hb] at hr;cases hr;exact ⟨F,W,#[],h W es fz' hW,⟨hA,fun _ x=>x,fun _ x=>.inl x,Eb _,fun _ _ _=>rfl,rfl,rfl,rfl⟩,hv,by simp,by simp⟩
variable {fz:Nat×Nat} {es:Array Event}
theorem Qit (hb:w.heap[b]?=some (.cells cs e fz)):(shape b).runT P w es=(.ok (some (e,cs.size)) w,es):=by
 simp_all [Sem.runT,World.shape?,Sem.shape,pure,runT]
theorem QEz (hb:w.heap[b]?=some (.cells cs e fz)):(viewAt b).runT P w es=(.ok none w,es):=by
 unfold viewAt;exact (QY (Qit hb)).trans rfl
theorem Qqo {a:Addr} (ha:a.block=b) (hb:w.heap[b]?=some (.cells cs e fz)):(Conv.seenAt a).runT P w es=(.ok a w,es):=by
 unfold Conv.seenAt;exact (QY (QEz (ha▸hb))).trans rfl
theorem QEs (hb:w.heap[b]?=some (.cells cs e fz)):(cellsIn b).runT P w es=(.ok (some cs.size) w,es):=by
 unfold cellsIn;exact (QY (Qit hb)).trans rfl
theorem QEw {src dst t k:TypeId} (hs:P.underlying src=some (.pointer t)) (hd:P.underlying dst=some .unsafePointer) (ht:Q6 P t (k+1)) (hb:w.heap[b]?=some (.cells cs e fz)) (h0:0 < cs.size) :
  (convert src dst (.pointer (some ⟨b,0,none⟩))).runT P w es=(.ok (.pointer (some ⟨b,0,none⟩)) w,es):=by
 have h1:(Conv.unsafePointer src dst (.pointer (some ⟨b,0,none⟩))).runT P w es=(.ok (.pointer (some ⟨b,0,none⟩)) w,es):=by
  unfold Conv.unsafePointer;refine (QY (Yw hs)).trans ?_;refine (QY (Yw hd)).trans ?_;dsimp only;refine (QY (Qqo rfl hb)).trans ?_;refine (QY (QEs hb)).trans ?_;refine (QY (Qfe ht)).trans ?_;have:¬ cs.size=0:=by omega
  simp_all
 unfold convert;refine (QY (Yw hs)).trans ?_;exact (QY (Yw hd)).trans h1
theorem QEy {a:Addr} {u:TypeId} {m:Nat} (ha:a.block=b) (hb:w.heap[b]?=some (.cells cs e fz)):(variablesAt a u m).runT P w es=(.ok (liesAt P P.depth e (cs.size / P.cellsOf e) a.off u m) w,es):=by
 unfold variablesAt;refine (QY (a:=P) (w':=w) (es':=es) rfl).trans ?_;subst ha;exact (QY (Qit hb)).trans rfl
theorem QEt {src dst u k:TypeId} (hs:P.underlying src=some .unsafePointer) (hd:P.underlying dst=some (.pointer u)) (ht:Q6 P u k) (hb:w.heap[b]?=some (.cells cs e fz)) (hl:liesAt P P.depth e (cs.size / P.cellsOf e) 0 u 1=true) :
  (convert src dst (.pointer (some ⟨b,0,none⟩))).runT P w es=(.ok (.pointer (some ⟨b,0,none⟩)) w,es):=by
 have h1:(Conv.unsafePointer src dst (.pointer (some ⟨b,0,none⟩))).runT P w es=(.ok (.pointer (some ⟨b,0,none⟩)) w,es):=by
  unfold Conv.unsafePointer;refine (QY (Yw hs)).trans ?_;refine (QY (Yw hd)).trans ?_;dsimp only;refine (QY (Qqo rfl hb)).trans ?_;refine (QY (Qfe ht)).trans ?_;refine (QY (QEy rfl hb)).trans ?_;simp_all
 unfold convert;refine (QY (Yw hs)).trans ?_;exact (QY (Yw hd)).trans h1
end
section
variable {P:Program} [JD P] {n:Nat} {ρ:Env} {w w':World} {b:Nat}
variable {d:Option Nat} {t T U I:TypeId} {p:String} {af:Array Edge} {gu:Option (Nat×Bool)} {x y z:Operand}
theorem QKb {c0:Value} {cs:List Value} {B t0 k:TypeId} (hs:P.underlying T=some (.pointer t0)) (hd:P.underlying U=some .unsafePointer) (ht:Q6 P t0 (k+1)) (hB:Box w b (c0::cs) B) (hx:Qm n ρ x=.pointer (some ⟨b,0,none⟩)):Yl P n ρ ⟨d,.convert T U x,t,p,af,gu⟩ w (.pointer (some ⟨b,0,none⟩)):=by
 have e0:execOp (Qm n ρ) ⟨d,.convert T U x,t,p,af,gu⟩=(convert T U (.pointer (some ⟨b,0,none⟩)) >>= fun v=>Pure.pure (Next.value v)):=by simp [execOp,hx]
 have h1:∀ (W:World) (es:Array Event) fz,W.heap[b]?=some (.cells (c0::cs).toArray B fz)->(execOp (Qm n ρ) ⟨d,.convert T U x,t,p,af,gu⟩).runT P W es=(.ok (.value (.pointer (some ⟨b,0,none⟩))) W,es):=fun W es fz hW=>by
  rw [e0];exact (QY (QEw hs hd ht hW (by simp))).trans rfl
 refine ⟨fun w1 r=>Qmg (hB.ext r.ext) (by simp) h1,fun w1 r=>?_⟩;rw [<-Sem.runT_fst P _ w1 #[],h1 w1 #[] _ (hB.ext r.ext)]
theorem QJl {c0:Value} {cs:List Value} {B u k:TypeId} (hs:P.underlying T=some .unsafePointer) (hd:P.underlying U=some (.pointer u)) (ht:Q6 P u k) (hB:Box w b (c0::cs) B) (hl:liesAt P P.depth B ((c0::cs).length / P.cellsOf B) 0 u 1=true) (hx:Qm n ρ x=.pointer (some ⟨b,0,none⟩)) :
  Yl P n ρ ⟨d,.convert T U x,t,p,af,gu⟩ w (.pointer (some ⟨b,0,none⟩)):=by
 have e0:execOp (Qm n ρ) ⟨d,.convert T U x,t,p,af,gu⟩=(convert T U (.pointer (some ⟨b,0,none⟩)) >>= fun v=>Pure.pure (Next.value v)):=by simp [execOp,hx]
 have h1:∀ (W:World) (es:Array Event) fz,W.heap[b]?=some (.cells (c0::cs).toArray B fz)->(execOp (Qm n ρ) ⟨d,.convert T U x,t,p,af,gu⟩).runT P W es=(.ok (.value (.pointer (some ⟨b,0,none⟩))) W,es):=fun W es fz hW=>by
  rw [e0];exact (QY (QEt hs hd ht hW (by omega))).trans rfl
 refine ⟨fun w1 r=>Qmg (hB.ext r.ext) (by simp) h1,fun w1 r=>?_⟩;rw [<-Sem.runT_fst P _ w1 #[],h1 w1 #[] _ (hB.ext r.ext)]
theorem QJg {e:TypeId} (hu:P.underlying T=some (.pointer e)) (hx:Qm n ρ x=.pointer none) (hy:Qm n ρ y=.pointer none):Yl P n ρ ⟨d,.binOp .eql T x y U,t,p,af,gu⟩ w (.bool true):=Xn fun w es=>by
 have h:(Op.equal T (.pointer none) (.pointer none)).runT P w es=(.ok true w,es):=by
  rw [Op.equal,show Op.maxDepth=9999+1 from rfl,Op.equalIn];exact (QY (Yw hu)).trans rfl
 simp_all [QY,trans,execOp,eqGuard,binOp]
theorem QJh {e:TypeId} {a:Addr} (hu:P.underlying T=some (.pointer e)) (hx:Qm n ρ x=.pointer (some a)) (hy:Qm n ρ y=.pointer none):Yl P n ρ ⟨d,.binOp .eql T x y U,t,p,af,gu⟩ w (.bool false):=Xn fun w es=>by
 have h:(Op.equal T (.pointer (some a)) (.pointer none)).runT P w es=(.ok false w,es):=by
  rw [Op.equal,show Op.maxDepth=9999+1 from rfl,Op.equalIn];exact (QY (Yw hu)).trans rfl
 simp_all [QY,trans,execOp,eqGuard,binOp]
theorem QJs {e k:TypeId} {a:Addr} (hu:P.underlying T=some (.pointer e)) (he:Q6 P e (k+1)) (hx:Qm n ρ x=.pointer (some a)) (hy:Qm n ρ y=.pointer (some a)):Yl P n ρ ⟨d,.binOp .neq T x y U,t,p,af,gu⟩ w (.bool false):=Xn fun w es=>by
 have h:(Op.equal T (.pointer (some a)) (.pointer (some a))).runT P w es=(.ok true w,es):=by
  rw [Op.equal,show Op.maxDepth=9999+1 from rfl,Op.equalIn];refine (QY (Yw hu)).trans ?_;refine (QY (Qfe he)).trans ?_;simp [sameAddr,Sem.runT]
 simp_all [QY,trans,execOp,eqGuard,binOp]
omit [JD P] in
theorem QEr {f : FuncId} {fn : Func} {g : Array Value → Sem Value} {args : Array Value} {es : Array Event} (hf : P.funcs[f]? = some fn) (hname : (fn.name == "runtime.NumGoroutine") = false) (hb : fn.body.isNone = true) (hn : Extern.findNext fn = none) (he : Extern.find fn = some g) :
    (callFunc f args).runT P w es=(g args >>= fun v=>Pure.pure (Next.value v)).runT P w (es.push ⟨.mark (.extern f),false,true⟩):=by
  have h1 : fn.name ≠ "runtime.NumGoroutine" := by simp_all
  have h2:fn.body=none:=by simpa using hb
  unfold callFunc;refine (QY (a:=P) (w':=w) (es':=es) rfl).trans ?_;simp_all
omit [JD P] in
theorem Qry {f : FuncId} {fn : Func} {g : Array Value → Sem Value} {args : Array Value} (hf : P.funcs[f]? = some fn) (hname : (fn.name == "runtime.NumGoroutine") = false) (hb : fn.body.isNone = true) (hn : Extern.findNext fn = none) (he : Extern.find fn = some g) (ht : Tame P (g args)) : Tame P (callFunc f args) :=
  .same _ (.mark (.extern f) (g args >>= fun v=>Pure.pure (Next.value v))) (fun w es=>QEr hf hname hb hn he) (.ext f _ (.bnd ht fun _=>.pure _))
theorem Qvq {f : FuncId} {fn : Func} {g : Array Value → Sem Value} {xs : Array Operand} {args : List Value} {aT : Array TypeId} {K : Value → World → Prop} (hf : P.funcs[f]? = some fn) (hname : (fn.name == "runtime.NumGoroutine") = false) (hb : fn.body.isNone = true) (hn : Extern.findNext fn = none) (he : Extern.find fn = some g)
    (ha:(xs.map (Qm n ρ)).toList=args) (ht:Tame P (g args.toArray)) (hr:∀ w1,Ext w w1->∃ v w',(g args.toArray).run P w1=.ok v w'/\K v w'):Eff P ⟨d,.call ⟨.value (.func f),xs,aT⟩,t,p,af,gu⟩ n ρ w K:=by
  have e:xs.map (Qm n ρ)=args.toArray:=by rw [<-ha]
  have e0:execOp (Qm n ρ) ⟨d,.call ⟨.value (.func f),xs,aT⟩,t,p,af,gu⟩=callFunc f args.toArray:=by
    simp only [execOp,resolve,Deferred.ofValue,invoke,e,Qm,pure_bind,Array.empty_append,Array.append_empty]
  refine ZE (by grind [Qry]) fun w1 e1=>?_;obtain ⟨v,w',h1,h2⟩:=hr w1 e1;rw [e0,run_callFunc_extern hf hname hb hn he,h1];exact h2
theorem Qjt {f : FuncId} {fn : Func} {g : Array Value → Sem Value} {xs : Array Operand} {args : List Value} {aT : Array TypeId} {v : Value} (hf : P.funcs[f]? = some fn) (hname : (fn.name == "runtime.NumGoroutine") = false) (hb : fn.body.isNone = true) (hn : Extern.findNext fn = none) (he : Extern.find fn = some g)
    (ha:(xs.map (Qm n ρ)).toList=args) (hg:g args.toArray=Pure.pure v):Yl P n ρ ⟨d,.call ⟨.value (.func f),xs,aT⟩,t,p,af,gu⟩ w v:=by
  have e:xs.map (Qm n ρ)=args.toArray:=by rw [<-ha]
  have e0:execOp (Qm n ρ) ⟨d,.call ⟨.value (.func f),xs,aT⟩,t,p,af,gu⟩=callFunc f args.toArray:=by
    simp only [execOp,resolve,Deferred.ofValue,invoke,e,Qm,pure_bind,Array.empty_append,Array.append_empty]
  refine Yj (by rw [e0];exact Qry hf hname hb hn he (by rw [hg];exact .pure _)) fun w1 e1=>?_;simp_all [run_callFunc_extern]
omit [JD P] in
theorem QHk (m:Nat) (ps:Array TypeId) (t:TypeId):Tame P (Extern.BytealgMakeNoZero.makeNoZero ps #[t] #[.int .i64 m]):=by
 unfold Extern.BytealgMakeNoZero.makeNoZero
 repeat' first
  | exact .pure _
  | exact X5 _
  | exact J9 _
  | exact Z7 _
  | refine .bnd (ZW _) fun _=>?_
  | refine .bnd (Qca _) fun _=>?_
  | refine .bnd (Qfn _) fun _=>?_
  | refine .bnd (Qcb _ _) fun _=>?_
  | refine .bnd (J9 _) fun _=>?_
  | refine Zo ?_ ?_
  | split
theorem Qvr {f : FuncId} {fn : Func} {e : TypeId} {ps : Array TypeId} {x : Operand} {aT : Array TypeId} {i : Int} {K : Value → World → Prop} (hf : P.funcs[f]? = some fn) (hname : (fn.name == "runtime.NumGoroutine") = false) (hb : fn.body.isNone = true) (hn : Extern.findNext fn = none)
    (he:Extern.find fn=some (Extern.BytealgMakeNoZero.makeNoZero ps #[T])) (hu:P.underlying T=some (.slice e)) (hx:Qm n ρ x=.int .i64 i) (h0:0 < i) (h1:i<=1073741824)
    (h:∀ v w',Ext w w'->(∀ b,Qv v=some b->w.heap.size<=b)->(∃ b c cs,v=.slice (some ⟨b,0,none⟩) i.toNat c/\w'.heap[b]?=some (.cells cs e (0,0))/\cs.size=c/\i.toNat<=c/\c<=maxLen)->K v w'):Eff P ⟨d,.call ⟨.value (.func f),#[x],aT⟩,t,p,af,gu⟩ n ρ w K:=by
  obtain ⟨m,rfl⟩:∃ m:Nat,i=(m:Int):=⟨i.toNat,by omega⟩;refine Qvq (args:=[.int .i64 m]) hf hname hb hn he (by simp [hx]) (QHk m ps T) fun w1 e1=>?_;obtain ⟨cs,hr,hle,hmax⟩:=Lib.run_makeNoZero (P:=P) w1 ps T e hu m (by omega);refine ⟨_,_,hr,h _ _ (e1.trans ⟨rfl,rfl,rfl,by simp,fun k hk _=>Lib.alloc_old w1.drew.drew _ k hk⟩) (fun b hb=>?_) ⟨_,_,cs,rfl,heap_alloc_new w1.drew.drew _,rfl,hle,hmax (by unfold maxLen;omega)⟩⟩;have hb:some w1.heap.size=some b:=hb;cases hb;exact e1.size
def BldAt (T:TypeId) (w:World) (b:Nat) (v:Value):Prop:=Z5 v/\∃ q,(q=.pointer none\/q=.pointer (some ⟨b,0,none⟩))/\Box w b [q,v] T
omit [JD P] in
theorem BldAt.lt {T:TypeId} {v:Value} (h:BldAt T w b v):b < w.heap.size:=by obtain ⟨_,_,_,h⟩:=h;exact h.lt
omit [JD P] in
theorem BldAt.chg {T:TypeId} {v:Value} {H:List Value} (h:BldAt T w b v) (c:Chg H w w') (hA:Avoids H b):BldAt T w' b v:=by
 obtain ⟨h1,q,h2,h⟩:=h;exact ⟨h1,q,h2,h.chg c hA⟩
omit [JD P] in
theorem BldAt.ext {T:TypeId} {v:Value} (h:BldAt T w b v) (c:Ext w w'):BldAt T w' b v:=h.chg c (Avoids.nil _)
omit [JD P] in
theorem Qqf:Z5 (.slice none 0 0):=fun _ _ h=>by cases h
omit [JD P] in
theorem BldAt.new {T:TypeId} (h:Box w b [.pointer none,.slice none 0 0] T):BldAt T w b (.slice none 0 0):=⟨Qqf,_,.inl rfl,h⟩
end
end Go.Gw

end
section
set_option linter.unusedSectionVars false
set_option linter.unusedVariables false
namespace Go.Gw
open Go
def Zj (s:ByteArray) (c:Int):Int:=match (List.range s.size).find? fun i=>s[i]! == c.toNat.toUInt8 with
 | some i=>(i:Int)
 | none=>-1
def Qaj (s:ByteArray) (c:Int):Int:=s.foldl (fun n x=>if x == c.toNat.toUInt8 then n+1 else n) ((0:Nat):Int)
section
variable {P:Program} [JD P] {n:Nat} {ρ:Env} {w:World}
variable {d:Option Nat} {t T U:TypeId} {p:String} {af:Array Edge} {gu:Option (Nat×Bool)} {x y z:Operand}
theorem QJm {f : FuncId} {fn : Func} {aT : Array TypeId} {s : ByteArray} {c : Int} (hf : P.funcs[f]? = some fn) (hname : (fn.name == "runtime.NumGoroutine") = false) (hb : fn.body.isNone = true) (hn : Extern.findNext fn = none) (he : Extern.find fn = some Extern.BytealgIndexByte.indexByte)
    (hx:Qm n ρ x=.string s) (hy:Qm n ρ y=.int .u8 c):Yl P n ρ ⟨d,.call ⟨.value (.func f),#[x,y],aT⟩,t,p,af,gu⟩ w (.int .i64 (Zj s c)):=by
  refine Qjt (args:=[.string s,.int .u8 c]) hf hname hb hn he (by simp [hx,hy]) ?_;show ((Pure.pure s:Sem ByteArray) >>= fun b=>(Pure.pure c.toNat.toUInt8:Sem UInt8) >>= fun c=>match (List.range b.size).find? fun i=>b[i]! == c with
    | some i=>(Pure.pure (goInt i):Sem Value)
    | none=>Pure.pure (goInt (-1)))=_
  rw [pure_bind,pure_bind];unfold Zj;cases (List.range s.size).find? fun i=>s[i]! == c.toNat.toUInt8<;>rfl
theorem QIz {f : FuncId} {fn : Func} {aT : Array TypeId} {s : ByteArray} {c : Int} (hf : P.funcs[f]? = some fn) (hname : (fn.name == "runtime.NumGoroutine") = false) (hb : fn.body.isNone = true) (hn : Extern.findNext fn = none) (he : Extern.find fn = some Extern.BytealgCount.count)
    (hx:Qm n ρ x=.string s) (hy:Qm n ρ y=.int .u8 c):Yl P n ρ ⟨d,.call ⟨.value (.func f),#[x,y],aT⟩,t,p,af,gu⟩ w (.int .i64 (Qaj s c)):=by
  refine Qjt (args:=[.string s,.int .u8 c]) hf hname hb hn he (by simp [hx,hy]) ?_;show ((Pure.pure s:Sem ByteArray) >>= fun b=>(Pure.pure c.toNat.toUInt8:Sem UInt8) >>= fun c=>(Pure.pure (goInt (b.foldl (fun n x=>if x == c then n+1 else n) (0:Nat))):Sem Value))=_;rw [pure_bind,pure_bind];rfl
end
end Go.Gw

end
section
set_option linter.unusedSectionVars false
set_option linter.unusedVariables false
namespace Go.Gw
open Go
section
variable {P:Program} [JD P] {n:Nat} {ρ:Env} {w:World}
variable {d:Option Nat} {t T U:TypeId} {p:String} {af:Array Edge} {gu:Option (Nat×Bool)} {x y z:Operand}
theorem PtRd.shape {α:Type} [Rep α] {L:List Value} {w2:World} {v:Value} {o:Option α} (h:PtRd L w2 v o):∃ a,v=.pointer a/\a.isNone=o.isNone:=by
 cases o with
 | none=>exact ⟨none,h,rfl⟩
 | some r=>obtain ⟨b,h1,_⟩:=h;exact ⟨_,h1,rfl⟩
end
end Go.Gw

end
section
set_option linter.unusedSectionVars false
set_option linter.unusedVariables false
namespace Go.Gw
open Go
def ErrRd (T:TypeId) (v:Value) (k:Int):Prop:=(k=0/\v=.nilIface)\/(0 < k/\v=.iface T (.int .i64 k))\/(k < 0/\∃ U a,U≠T/\v=.iface U (.pointer a))
theorem ErrRd.nil {T:TypeId}:ErrRd T .nilIface 0:=.inl ⟨rfl,rfl⟩
theorem ErrRd.num {T:TypeId} {k:Int} (h:0 < k):ErrRd T (.iface T (.int .i64 k)) k:=.inr (.inl ⟨h,rfl⟩)
theorem ErrRd.ptr {T U:TypeId} {a:Option Addr} (h:U≠T):ErrRd T (.iface U (.pointer a)) (-1):=.inr (.inr ⟨by decide,U,a,h,rfl⟩)
theorem ErrRd.ptrR {α:Type} [Rep α] {T U:TypeId} {L:List Value} {w:World} {v:Value} {o:Option α} (h:U≠T) (hp:PtRd L w v o):ErrRd T (.iface U v) (-1):=by
 obtain ⟨a,rfl,_⟩:=hp.shape;exact .ptr h
structure ErT (P:Program) (T:TypeId):Prop where
 u:P.underlying T=some (.int .i64)
 i:∃ i,P.info? T=some i/\i.comparable=true
section
variable {P:Program} [JD P] {n:Nat} {ρ:Env} {w:World}
variable {d:Option Nat} {t T U I:TypeId} {p:String} {af:Array Edge} {gu:Option (Nat×Bool)} {x y z:Operand} {v:Value} {k j:Int}
omit [JD P] in
theorem QEx {es:Array Event} {i:TypeInfo} (h:P.info? T=some i):(typeInfo T).runT P w es=(.ok i w,es):=by
 unfold typeInfo;refine (QY (a:=P) (w':=w) (es':=es) rfl).trans ?_;rw [h];rfl
omit [JD P] in
theorem Qqk {es:Array Event} (hu:∃ ms,P.underlying I=some (.interface ms)) (h:ErrRd T v k):(Op.equal I v .nilIface).runT P w es=(.ok (decide (k=0)) w,es):=by
 obtain ⟨ms,hu⟩:=hu;rw [Op.equal,show Op.maxDepth=9999+1 from rfl,Op.equalIn];rcases h with ⟨rfl,rfl⟩ | ⟨h,rfl⟩ | ⟨h,U,a,_,rfl⟩
 ·exact (QY (Yw hu)).trans rfl
 ·refine (QY (Yw hu)).trans ?_;rw [decide_eq_false (by omega)];rfl
 ·refine (QY (Yw hu)).trans ?_;rw [decide_eq_false (by omega)];rfl
omit [JD P] in
theorem Qqj {es:Array Event} (hu:∃ ms,P.underlying I=some (.interface ms)) (ht:ErT P T) (h:ErrRd T v k) (hj:0 < j):(Op.equal I v (.iface T (.int .i64 j))).runT P w es=(.ok (decide (k=j)) w,es):=by
 obtain ⟨ms,hu⟩:=hu;rw [Op.equal,show Op.maxDepth=9999+1 from rfl,Op.equalIn];rcases h with ⟨rfl,rfl⟩ | ⟨h,rfl⟩ | ⟨h,U,a,hU,rfl⟩
 ·refine (QY (Yw hu)).trans ?_;rw [decide_eq_false (by omega)];rfl
 ·refine (QY (Yw hu)).trans ?_;obtain ⟨i,hi,hc⟩:=ht.i;dsimp only;rw [if_neg (by simp)];refine (QY (QEx hi)).trans ?_;rw [hc];show (Op.equalIn (9998+1) T (.int .i64 k) (.int .i64 j)).runT P w es=_;rw [Op.equalIn];refine (QY (Yw ht.u)).trans ?_;show (Pure.pure (k == j):Sem Bool).runT P w es=_;rfl
 ·refine (QY (Yw hu)).trans ?_;dsimp only;rw [if_pos hU,decide_eq_false (by omega)];rfl
theorem Qtf (hu:∃ ms,P.underlying I=some (.interface ms)) (h:ErrRd T v k) (hx:Qm n ρ x=v):Yl P n ρ ⟨d,.binOp .neq I x (.const .nilIface) U,t,p,af,gu⟩ w (.bool (!decide (k=0))):=Xn fun w es=>by
 have hy:Qm n ρ (.const .nilIface)=.nilIface:=rfl;have:=Qqk (w:=w) (es:=es) hu h;rcases h with ⟨rfl,rfl⟩ | ⟨_,rfl⟩ | ⟨_,_,_,_,rfl⟩<;>(simp only [execOp,hx,hy,eqGuard,binOp,Bool.or_true,Bool.not_true,Bool.false_eq_true,if_true,if_false];first | exact (QY (QY (a:=()) rfl)).trans ((QY (QY this)).trans rfl) | exact (QY (QY this)).trans rfl)
theorem QJf (hu:∃ ms,P.underlying I=some (.interface ms)) (h:ErrRd T v k) (hx:Qm n ρ x=v):Yl P n ρ ⟨d,.binOp .eql I x (.const .nilIface) U,t,p,af,gu⟩ w (.bool (decide (k=0))):=Xn fun w es=>by
 have hy:Qm n ρ (.const .nilIface)=.nilIface:=rfl;have:=Qqk (w:=w) (es:=es) hu h;rcases h with ⟨rfl,rfl⟩ | ⟨_,rfl⟩ | ⟨_,_,_,_,rfl⟩<;>(simp only [execOp,hx,hy,eqGuard,binOp,Bool.or_true,Bool.not_true,Bool.false_eq_true,if_true,if_false];first | exact (QY (QY (a:=()) rfl)).trans ((QY (QY this)).trans rfl) | exact (QY (QY this)).trans rfl)
theorem QJr (hu:∃ ms,P.underlying I=some (.interface ms)) (ht:ErT P T) (h:ErrRd T v k) (hj:0 < j) (hx:Qm n ρ x=v) (hy:Qm n ρ y=.iface T (.int .i64 j)):Yl P n ρ ⟨d,.binOp .neq I x y U,t,p,af,gu⟩ w (.bool (!decide (k=j))):=Xn fun w es=>by
 have:=Qqj (w:=w) (es:=es) hu ht h hj;rcases h with ⟨rfl,rfl⟩ | ⟨_,rfl⟩ | ⟨_,_,_,_,rfl⟩<;>(simp only [execOp,hx,hy,eqGuard,binOp];exact (QY (QY this)).trans rfl)
theorem Qga (hu:∃ ms,P.underlying I=some (.interface ms)) (ht:ErT P T) (h:ErrRd T v k) (hj:0 < j) (hx:Qm n ρ x=v) (hy:Qm n ρ y=.iface T (.int .i64 j)):Yl P n ρ ⟨d,.binOp .eql I x y U,t,p,af,gu⟩ w (.bool (decide (k=j))):=Xn fun w es=>by
 have:=Qqj (w:=w) (es:=es) hu ht h hj;rcases h with ⟨rfl,rfl⟩ | ⟨_,rfl⟩ | ⟨_,_,_,_,rfl⟩<;>(simp only [execOp,hx,hy,eqGuard,binOp];exact (QY (QY this)).trans rfl)
theorem Zr (hu:P.underlying U=some (.int .i64)) (hx:Qm n ρ x=v):Yl P n ρ ⟨d,.makeInterface U x,t,p,af,gu⟩ w (.iface U v):=Xn fun w es=>by
 simp only [execOp,hx,Instr.makeInterface];exact (QY ((QY (Yw hu)).trans rfl)).trans rfl
theorem Qte {e:TypeId} (hu:P.underlying U=some (.pointer e)) (hx:Qm n ρ x=v):Yl P n ρ ⟨d,.makeInterface U x,t,p,af,gu⟩ w (.iface U v):=Xn fun w es=>by
 simp only [execOp,hx,Instr.makeInterface];exact (QY ((QY (Yw hu)).trans rfl)).trans rfl
end
end Go.Gw

end
