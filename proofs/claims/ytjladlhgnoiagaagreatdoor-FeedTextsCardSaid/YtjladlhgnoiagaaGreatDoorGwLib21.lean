/- Laws of the walk. Condition: each theorem says its own. -/
import Derived.Test.YtjladlhgnoiagaaGreatDoorGwCj6
import Derived.Laws.BytesString
import Derived.MapKept
import Derived.Lib.AppendStr
import Derived.Lib.UnsafeStr
import Derived.Lib.MakeNoZero
import Derived.Lib.Builder
import Derived.Laws.Externs
import GoSem.Extern.BytealgIndexByte
import GoSem.Extern.BytealgCount
set_option linter.unusedVariables false
set_option linter.unusedSimpArgs false
set_option linter.unusedSectionVars false
open Nat renaming mul_one→Ea
section
set_option linter.unusedSectionVars false
namespace Go.Gw
open Go
section
variable {P:Program} [JD P]
end
end Go.Gw

end
section
set_option linter.unusedSectionVars false
namespace Go.Gw
open Go
def YS (s:ByteArray) (lo hi:Int):Option ByteArray:=if 0<=lo/\lo<=hi/\hi<=(s.size:Int) then some (s.extract lo.toNat hi.toNat) else none
theorem Qkk {s t:ByteArray} {lo hi:Int} (h:YS s lo hi=some t):0<=lo/\lo<=hi/\hi<=(s.size:Int)/\t=s.extract lo.toNat hi.toNat:=by
 grind [YS]
def Zo (xs:List U8):List Int:=xs
def YI (xs:List U8):ByteArray:=(Zo xs).foldl (fun r n=>r.push (UInt8.ofNat n.toNat)) ByteArray.empty
theorem Qof:∀ (l:List Int) (r:ByteArray),l.foldl (fun r n=>r.push (UInt8.ofNat n.toNat)) r=⟨r.data++(l.map fun n=>UInt8.ofNat n.toNat).toArray⟩
 | [],r=>by simp
 | b::l,r=>by
  simp only [List.map_cons,List.foldl_cons];rw [Qof l];simp [ByteArray.push]
theorem Qjn (xs:List U8):YI xs=⟨((Zo xs).map fun n=>UInt8.ofNat n.toNat).toArray⟩:=by
 simp_all [Qof,YI]
theorem Qjm (s:ByteArray):YI (bl s)=s:=by
 rw [Qjn];show (⟨((s.data.toList.map fun b=>((b.toNat:Nat):Int)).map fun n:Int=>UInt8.ofNat n.toNat).toArray⟩:ByteArray)=s;rw [List.map_map];have:((fun n:Int=>UInt8.ofNat n.toNat) ∘ fun b:UInt8=>((b.toNat:Nat):Int))=id:=by
  funext b;simp
 simp_all
theorem Quq (a b:ByteArray):bl (a++b)=bl a++bl b:=by
 show List.map (fun b:UInt8=>((b.toNat:Nat):Int)) (a++b).data.toList=List.map (fun b:UInt8=>((b.toNat:Nat):Int)) a.data.toList++List.map (fun b:UInt8=>((b.toNat:Nat):Int)) b.data.toList;simp
section
variable {P:Program} [JD P] {n:Nat} {ρ:Env} {w:World}
variable {d:Option Nat} {t T U:TypeId} {p:String} {af:Array Edge} {gu:Option (Nat×Bool)} {x y z:Operand}
theorem Qkz {s r:ByteArray} {k k':IntKind} {lo hi:Int} (hu:P.underlying T=some .string) (h:YS s lo hi=some r) (hx:Qo n ρ x=.string s) (hl:Qo n ρ y=.int k lo) (hh:Qo n ρ z=.int k' hi) :
  Yl P n ρ ⟨d,.slice T x (some y) (some z) none,t,p,af,gu⟩ w (.string r):=by
 obtain ⟨h0,h1,h2,rfl⟩:=Qkk h;refine YU (Yn (Qba _ _ _ _ _)) fun w1 _=>?_;have e1:=Qap (P:=P) (w:=w1) (k:=k') (i:=hi) (y:=s.size) (c:=.sliceAlen) (by omega) (by omega);have e2:=Qap (P:=P) (w:=w1) (k:=k) (i:=lo) (y:=hi.toNat) (c:=.sliceB) h0 (by omega);simp_all [execOp,Instr.sliceAt,Instr.slice,run_underlying,Instr.sliceBounds]
theorem Qtc {s r:ByteArray} {k':IntKind} {hi:Int} (hu:P.underlying T=some .string) (h:YS s 0 hi=some r) (hx:Qo n ρ x=.string s) (hh:Qo n ρ z=.int k' hi) :
  Yl P n ρ ⟨d,.slice T x none (some z) none,t,p,af,gu⟩ w (.string r):=by
 obtain ⟨h0,h1,h2,rfl⟩:=Qkk h;refine YU (Yn (Qba _ _ _ _ _)) fun w1 _=>?_;simp_all [execOp,Instr.sliceAt,Instr.slice,run_underlying,Instr.sliceBounds,Qap]
theorem Qbe {s r:ByteArray} {k:IntKind} {lo:Int} (hu:P.underlying T=some .string) (h:YS s lo (s.size:Int)=some r) (hx:Qo n ρ x=.string s) (hl:Qo n ρ y=.int k lo) :
  Yl P n ρ ⟨d,.slice T x (some y) none none,t,p,af,gu⟩ w (.string r):=by
 obtain ⟨h0,h1,h2,rfl⟩:=Qkk h;refine YU (Yn (Qba _ _ _ _ _)) fun w1 _=>?_;simp_all [execOp,Instr.sliceAt,Instr.slice,run_underlying,Instr.sliceBounds,Qap]
omit [JD P] in
theorem Qmt {L:List Value} {cs:List Value} {xs:List U8} (h:Elems L w cs xs):cs=(Zo xs).map (Value.int .u8):=by
 obtain ⟨h1,h2⟩:=h;have h1:cs.length=xs.length * 1:=h1;rw [Ea] at h1;apply List.ext_getElem?;intro i;rcases Nat.lt_or_ge i xs.length with hi | hi
 ·have hx:xs[i]?=some xs[i]:=List.getElem?_eq_getElem hi;have h3:(cs.drop (i * 1)).take 1=[.int .u8 xs[i]]:=h2 i _ hx;have h4:((cs.drop (i * 1)).take 1)[0]?=some (.int .u8 xs[i]):=by rw [h3];rfl
  rw [Ea,List.getElem?_take_of_lt (by omega),List.getElem?_drop,Nat.add_zero] at h4;rw [h4];rw [List.getElem?_map];have hx':(Zo xs)[i]?=some (xs[i]:Int):=hx
  grind
 ·rw [List.getElem?_eq_none (by omega),List.getElem?_eq_none (by rw [List.length_map];exact hi)]
omit [JD P] in
theorem QFq {L:List Value} {v:Value} {xs:List U8} (h:SlRd L w v xs):(Conv.bytesToString v).run P w=.ok (.string (YI xs)) w:=by
  rcases h with ⟨a0,rfl,rfl⟩ | ⟨b,off,cap,cur,e,fz,rfl,hb,hA,h4,h5,h6,h7⟩
  · cases a0 with
    | none=>rfl
    | some a=>rfl
  · have e1:=Qmt h7;have e2:Rep.n U8=1:=rfl;rw [e2,Ea] at e1;refine run_bytesToString (P:=P) w ⟨b,off,none⟩ xs.length cap (Zo xs) ?_;have hl:=run_loadCells_list (P:=P) w ⟨b,off,none⟩ ((Zo xs).map (Value.int .u8)) (fun j v hj=>by
      rw [<-e1] at hj;refine (At.of_block hb (cs:=(cur.toList.drop off).take xs.length) (fun j v hv=>?_)).2 j v hj
      grind)
    grind
omit [JD P] in
theorem QHy (v:Value):Tame P (Conv.bytesToString v):=by
 unfold Conv.bytesToString;split
 ·exact .pure _
 ·refine .bnd (Qko _ _) fun cells=>.bnd ?_ fun s=>.pure _;rw [<-Array.forIn_toList];refine Qgo _ (fun a b=>?_) _ _;split
  ·exact .pure _
  ·exact Yh _
 ·exact Yh _
theorem Qkt {e:TypeId} {L:List Value} {v:Value} {xs:List U8} (hu:P.underlying T=some (.slice e)) (he:P.underlying e=some (.int .u8)) (hU:P.underlying U=some .string) (hs:SlRd L w v xs) (hx:Qo n ρ x=v) :
  Yl P n ρ ⟨d,.convert T U x,t,p,af,gu⟩ w (.string (YI xs)):=by
 obtain ⟨a,cap,rfl,_⟩:=hs.shape;refine YU (Yn (by
  rw [hx];unfold convert;exact .und hu (.und hU (.und he (QHy _))))) fun w1 e1=>?_
 simp [execOp,hx,run_convert_bytes_string w1 T U e a xs.length cap hu he hU,QFq (P:=P) (hs.ext e1)]
end
end Go.Gw
namespace Go.Gw
open Go
section
variable {P:Program} [JD P] {n:Nat} {ρ:Env} {w:World}
variable {d:Option Nat} {t T U:TypeId} {p:String} {af:Array Edge} {gu:Option (Nat×Bool)} {x y z:Operand}
variable {ps rs:Array TypeId} {va:Bool} {f:Fn} {a c:Array Value}
end
end Go.Gw

end
section
set_option linter.unusedSectionVars false
namespace Go.Gw
open Go
theorem QBv {v:Value} {w:World}:∀ b,Qs v=some b->Qbg [v] w b:=fun _ hb=>.inr (Qbt (List.mem_cons_self ..) hb)
section
variable {P:Program} [JD P] {n:Nat} {ρ:Env} {w:World}
variable {d:Option Nat} {t T U I:TypeId} {p:String} {af:Array Edge} {gu:Option (Nat×Bool)} {x y z:Operand}
theorem Quu {f:FuncId} {fn:Func} {c:Code} {args:List Value} {rs:List ResultVar} {Φ:Value->World->Prop} (hf:P.funcs[f]?=some fn) (hb:fn.body=some c) (hn:fn.ntmps=n) (hl:Nat.ble args.length n=true)
    (hr:fn.results=rs.toArray) (hm:YN rs n=true)
    (h:WC P n c ⟨fun ρ w=>∃ vs,Jq P ρ w rs vs/\Φ (tup vs) w,fun _ _ _=>False,fun ρ w=>∃ vs,Jq P ρ w rs vs/\Φ (tup vs) w⟩ (fun i=>args.getD i undef) w):CallsTo P f args w Φ:=by
  refine Qmg hf hb ?_;have hl:args.length<=n:=by simpa using hl
  rw [hn];have:=Qey args n hl;rw [this];refine Qbc h fun e a w he=>?_;cases e<;>first
    | exact he.elim
    | (obtain ⟨_,_,hf⟩:=he;exact hf.elim)
    | (obtain ⟨ρ, rfl, vs, hv, hΦ⟩ := he
       exact ⟨rfl,Qkq hr hm hv,_,fun w1 r=>Qjy hr hm r hv,hΦ⟩)
end
end Go.Gw

end
section
set_option linter.unusedSectionVars false
namespace Go.Gw
open Go Go.MapKept
section
variable {w w':World} {b:Nat} {ks:List ByteArray} {k:ByteArray}
end
section
variable {P:Program} {W:World} {ev:Array Event} {r cl:Nat} {es:Array MapEntry} {T kt et:TypeId}
end
section
variable {P:Program} [JD P] {n:Nat} {ρ:Env} {w w':World}
variable {d:Option Nat} {t T U kt et:TypeId} {p:String} {af:Array Edge} {gu:Option (Nat×Bool)} {x y z:Operand} {b:Nat} {ks:List ByteArray} {k:ByteArray}
end
end Go.Gw

end
section
set_option linter.unusedSectionVars false
set_option linter.unusedVariables false
namespace Go.Gw
open Go
section
variable {P:Program} {α β:Type} {w:World}
theorem EvOk.more {F F' Z:Nat->Prop} {e:Event} (h:EvOk F Z e) (hF:∀ b,F b->F' b):EvOk F' Z e:=h.imp (fun ⟨a,h1,h2,h3,h4⟩=>⟨a,h1,h2,hF _ h3,h4⟩) id
theorem Qbm {m:Sem α} {f:α->Sem β} (h:Y8 P m w) (hf:∀ a w',m.run P w=.ok a w'->Y8 P (f a) w'):Y8 P (m >>= f) w:=by
 intro F Z W es es' r w' hA hv hr;rw [show (m >>= f)=m.bind f from rfl,Go.Sem.runT_bind'] at hr;generalize hx:m.runT P w es=x at hr;obtain ⟨x1,x2⟩:=x;cases x1 with
 | halt h w1=>cases hr
 | ok a w1 =>
  have hr:(f a).runT P w1 x2=(.ok r w',es'):=hr;obtain ⟨F1,W1,us1,k1,k2,k3,k4,k5⟩:=h hA hv hx;obtain ⟨F2,W2,us2,l1,l2,l3,l4,l5⟩:=hf a w1 (by simp_all) k2.agr k3 hr;refine ⟨F2,W2,us1++us2,?_,k2.trans l2,l3,by simp_all,fun e he=>?_⟩
  ·simp_all
  ·rcases Array.mem_append.1 he with he | he
   ·exact (k5 e he).more l2.more
   simp_all
theorem Qff (a:α):Y8 P (Pure.pure a:Sem α) w:=(Tame.pure a).fr0
theorem Qlk {F Z:Nat->Prop} {w W:World} (h:Agr F Z w W) {b:Nat} {cs:Array Value} {e:TypeId} {fz:Nat×Nat} (hb:w.heap[b]?=some (.cells cs e fz)) (h0:0 < cs.size):F b:=Classical.byContradiction fun hn=>by
 have h2:=Option.some.inj (hb.symm.trans (h.hid b hn (Zc hb)));cases h2
theorem Qts {F Z:Nat->Prop} {w W:World} (h:Agr F Z w W) {b:Nat} {cs:Array Value} {e:TypeId} (hb:w.heap[b]?=some (.cells cs e (0,0))) (h0:0 < cs.size):F b/\¬ Z b/\W.heap[b]?=some (.cells cs e (0,0)):=by
 have hF:=Qlk h hb h0;have hz:¬ Z b:=fun hz=>by
  obtain ⟨cs',e',fz,h1,_⟩:=h.shr b hF hz
  grind
 exact ⟨hF,hz,(h.own b hF hz).trans hb⟩
theorem Qzw {b:Nat} {cs:Array Value} {e:TypeId} {fz:Nat×Nat} (hb:w.heap[b]?=some (.cells cs e fz)) (h0:0 < cs.size):Y8 P (shape b) w:=by
 intro F Z W es es' r w' hA hv hr;have hF:=Qlk hA hb h0;have hW:∃ fz',W.heap[b]?=some (.cells cs e fz'):=by
  rcases Classical.em (Z b) with hz | hz
  ·obtain ⟨cs',e',fz',h1,h2⟩:=hA.shr b hF hz;simp_all
  ·exact ⟨fz,(hA.own b hF hz).trans hb⟩
 obtain ⟨fz',hW⟩:=hW;have h1:∀ (W:World) (fz:Nat×Nat) (es:Array Event),W.heap[b]?=some (.cells cs e fz)->(shape b).runT P W es=(.ok (some (e,cs.size)) W,es):=fun W fz es hW=>by
  simp_all [Sem.runT,World.shape?,Sem.shape,pure,runT]
 rw [h1 w fz es hb] at hr;cases hr;exact ⟨F,W,#[],h1 W fz' es hW,⟨hA,fun _ x=>x,fun _ x=>.inl x,Nat.le_refl _,fun _ _ _=>rfl,rfl,rfl,rfl⟩,hv,by simp,by simp⟩
theorem QFt {b:Nat} {cs:Array Value} {e:TypeId} {fz:Nat×Nat} (hb:w.heap[b]?=some (.cells cs e fz)):(shape b).run P w=.ok (some (e,cs.size)) w:=by
 simp_all [Sem.run,World.shape?,Sem.shape,pure]
theorem JW {w:World} {a:Addr} {m b:Nat} (hm:m≠0):(w.freeze a m).heap[b]?=if b=a.block then (w.heap[b]?).map (fun o=>match o with | .cells c elem (lo,hi)=>.cells c elem (if lo == hi then (a.off,a.off+m) else (min lo a.off,max hi (a.off+m))) | o=>o) else w.heap[b]?:=by
 unfold World.freeze
 grind
theorem Qdf {w:World} {a:Addr} {m:Nat}:(w.freeze a m).heap.size=w.heap.size:=by grind [World.freeze]
theorem same_freeze {w:World} {a:Addr} {m:Nat}:(w.freeze a m).tape=w.tape/\(w.freeze a m).drawn=w.drawn/\(w.freeze a m).os=w.os/\(w.freeze a m).output=w.output:=by grind [World.freeze]
theorem Qtq {F Z:Nat->Prop} {w W:World} (h:Agr F Z w W) {a:Addr} {m:Nat} (hm:m≠0) (hF:F a.block) (hz:¬ Z a.block):Agr F Z (w.freeze a m) (W.freeze a m) where
 tape:=by rw [same_freeze.1,same_freeze.1,h.tape]
 drawn:=by rw [same_freeze.2.1,same_freeze.2.1,h.drawn]
 os:=by rw [same_freeze.2.2.1,same_freeze.2.2.1,h.os]
 output:=by rw [same_freeze.2.2.2,same_freeze.2.2.2,h.output]
 size:=by rw [Qdf,Qdf,h.size]
 own:=fun b hb hzb=>by rw [JW hm,JW hm,h.own b hb hzb]
 shr:=fun b hb hzb=>by
  have hne:b≠a.block:=fun e=>hz (e▸hzb)
  rw [JW hm,JW hm,if_neg hne,if_neg hne];exact h.shr b hb hzb
 hid:=fun b hb hlt=>by
  have hne:b≠a.block:=fun e=>hb (e▸hF)
  rw [JW hm,if_neg hne];exact h.hid b hb (by grind [Qdf])
 zf:=h.zf
theorem QEg {w:World} {a:Addr} {m:Nat} (hm:m≠0) (h:NoView w):NoView (w.freeze a m):=fun b x u e=>by
 rw [JW hm] at e;split at e
 ·cases hb:w.heap[b]? with
  | none=>simp_all
  | some o =>
   rw [hb] at e;cases o<;>simp at e
   rename_i x' u';exact h b x' u' hb
 ·exact h b x u e
theorem Qzv {a:Addr} {m:Nat} {cs:Array Value} {e:TypeId} (hm:m≠0) (hb:w.heap[a.block]?=some (.cells cs e (0,0))) (h0:0 < cs.size):Y8 P (freeze a m) w:=by
 intro F Z W es es' r w' hA hv hr;obtain ⟨hF,hz,hW⟩:=Qts hA hb h0;have h1:∀ (W:World) (es:Array Event),(freeze a m).runT P W es=(.ok () (W.freeze a m),es):=fun W es=>rfl
 rw [h1] at hr;cases hr;refine ⟨F,W.freeze a m,#[],h1 W es,⟨Qtq hA hm hF hz,fun _ x=>x,fun _ x=>.inl x,by rw [Qdf];omega,fun b hb hk=>?_,same_freeze.1,same_freeze.2.2.1,same_freeze.2.2.2⟩,QEg hm hv,by simp,by simp⟩;rw [JW hm,if_neg (fun e=>by simp_all)]
end
end Go.Gw

end
section
set_option linter.unusedSectionVars false
set_option linter.unusedVariables false
namespace Go.Gw
open Go
section
variable {P:Program} [JD P] {n:Nat} {ρ:Env} {w w':World}
variable {d:Option Nat} {t T U I:TypeId} {p:String} {af:Array Edge} {gu:Option (Nat×Bool)} {x y z:Operand}
omit [JD P] in
theorem Qrs (s:ByteArray):Lib.strCells s=(Zo (bl s)).map (Value.int .u8):=by
 show List.map (fun b:UInt8=>Value.int .u8 b.toNat) s.data.toList=List.map (Value.int .u8) (List.map (fun b:UInt8=>((b.toNat:Nat):Int)) s.data.toList);simp
omit [JD P] in
theorem Qwc (L:List Value) (w:World) (s:ByteArray):Elems L w (Lib.strCells s) (bl s):=by
 refine ⟨by rw [Lib.strCells_length,Zr];exact (Ea _).symm,fun i x hx=>?_⟩;show ((Lib.strCells s).drop (i * 1)).take 1=[.int .u8 x];have h1:(Lib.strCells s)[i]?=some (.int .u8 x):=by
  rw [Qrs,List.getElem?_map];show Option.map (Value.int .u8) ((bl s)[i]?)=_;exact congrArg (Option.map (Value.int .u8)) hx
 rw [Ea]
 grind [List.drop_eq_getElem_cons,List.getElem?_eq_some_iff]
def JZ:Value->Value
 | .slice (some a) _ _=>.pointer (some a)
 | _=>.pointer none
omit [JD P] in
theorem Own.nilOr {α:Type} [Rep α] {e:TypeId} {L:List Value} {v:Value} {xs:List α} (h:Own e L w v xs):v=.slice none 0 0/\xs=[]\/∃ g cap cur,v=.slice (some ⟨g,0,none⟩) xs.length cap/\w.heap[g]?=some (.cells cur e (0,0))/\xs.length<=cap/\cap<=maxLen/\cur.size=cap * Rep.n α/\Elems L w (cur.toList.take (xs.length * Rep.n α)) xs:=by
 obtain ⟨cells,ho,hel⟩:=h;rcases ho.2 with ⟨hh,h0⟩ | ⟨g,cap',cur',hh,_,hg',h4',hcm',hcs,htake⟩
 ·simp_all
 grind
omit [JD P] in
theorem QIh (a:Addr):∀ (m:Nat) (acc:ByteArray),Tame P (loadBytes a acc m):=by
 intro m
 induction m generalizing a with
 | zero=>intro acc;exact .pure _
 | succ m ih =>
  intro acc;unfold loadBytes;refine .bnd (Qkn _) fun v=>?_
  grind [Yh]
omit [JD P] in
theorem Qqs:∀ (l:List Int) (a:Addr) (acc:ByteArray),(∀ j x,l[j]?=some x->w.cell? (a.add j)=some (.int .u8 x)) ->
  (loadBytes a acc l.length).run P w=.ok ⟨acc.data++(l.map fun n=>UInt8.ofNat n.toNat).toArray⟩ w
 | [],a,acc,_=>by rfl
 | x::l,a,acc,h=>by
  have h0:w.cell? a=some (.int .u8 x):=by
   have:=h 0 x rfl;trivial
  have ih:=Qqs l (a.add 1) (acc.push (UInt8.ofNat x.toNat)) (fun j y hy=>by
   have:=h (j+1) y (by grind)
   grind [Addr.add])
  simp_all [ByteArray.push,ByteArray.ext,Eq.trans,List.length_cons,loadBytes,Sem.run_bind,run_load,Result.andThen]
omit [JD P] in
theorem QJa (pt it ty:TypeId) (q:Option Addr):Builtin.unsafeString_ #[pt,it] ty #[.pointer q,.int .i64 0]=Pure.pure (.string .empty):=by
 cases q<;>rfl
omit [JD P] in
theorem Qsp (pt it ty:TypeId) (a:Addr) (l:Nat) (h0:l≠0) (h1:l<=9223372036854775807):Builtin.unsafeString_ #[pt,it] ty #[.pointer (some a),.int .i64 l] =
    (elemOf pt >>= fun e => variablesAt a e l >>= fun ok => if ok = true then loadBytes a .empty l >>= fun s => freeze a l >>= fun _ => Pure.pure (.string s) else unsupported (.unsafePointer "String: not so many bytes at ptr")) := by
  have hdef : Builtin.unsafeString_ #[pt, it] ty #[.pointer (some a), .int .i64 l] =
      (do
        let n <-asInt (.int .i64 l)
        if n < 0 then runtimePanic (.error "unsafe.String: len out of range")
        if n > IntKind.i64.max then unsupported (.unsafePointer "String: a length above the largest int")
        if n=0 then Pure.pure (.string .empty)
        else if <-variablesAt a (<-elemOf pt) n.toNat then do
          let s <-loadBytes a .empty n.toNat
          freeze a n.toNat
          Pure.pure (.string s)
        else unsupported (.unsafePointer "String: not so many bytes at ptr")) := rfl
  have hmax:IntKind.i64.max=9223372036854775807:=rfl;have g1:¬ (l:Int) < 0:=by omega
  have g2:¬ (l:Int) > IntKind.i64.max:=by omega
  simp_all [asInt,asIntOf,pure_bind,if_neg,Int.toNat_natCast,Int]
omit [JD P] in
theorem Qqu {e it ty pt:TypeId} {zz:Value} {L:List Value} {v:Value} {xs:List U8} (hp:P.underlying pt=some (.pointer e)) (hi:EInfo P e 1 1 zz) (hown:Own e L w v xs) :
    Y8 P (Builtin.unsafeString_ #[pt,it] ty #[JZ v,.int .i64 xs.length]) w/\∃ w',(Builtin.unsafeString_ #[pt,it] ty #[JZ v,.int .i64 xs.length]).run P w=.ok (.string (YI xs)) w'/\Chg [v] w w':=by
  by_cases h0:xs.length=0
  · have hx:xs=[]:=List.eq_nil_of_length_eq_zero h0;have h1:∃ q,JZ v=.pointer q:=by
      rcases hown.nilOr with ⟨rfl,_⟩ | ⟨g,cap,cur,rfl,_⟩
      · exact ⟨_,rfl⟩
      · exact ⟨_,rfl⟩
    obtain ⟨q,hq⟩:=h1;rw [hq,hx];rw [show ((([]:List U8).length:Nat):Int)=0 from rfl,QJa];exact ⟨Qff _,w,rfl,Chg.refl _ _⟩
  · rcases hown.nilOr with ⟨_,hx⟩ | ⟨g,cap,cur,rfl,hg,hle,hcm,hsz,hel⟩
    · simp_all
    have hsz:cur.size=cap:=by rw [hsz];exact Ea _
    have hel:Elems L w (cur.toList.take xs.length) xs:=by
      simp_all [Rep.n,U8,Ea]
    have hpos:0 < cur.size:=by omega
    obtain ⟨i,i1,i2,i3,i4,i5,i6⟩:=hi.ex;have hc1:P.cellsOf e=1:=by simp [Program.cellsOf,i1,i2]
    have h63:xs.length<=9223372036854775807:=by grind [maxLen]
    have hcells:=Qmt hel;have hcell:∀ j y,(Zo xs)[j]?=some y->w.cell? ((⟨g,0,none⟩:Addr).add j)=some (.int .u8 y):=fun j y hy=>by
      have h1:(cur.toList.take xs.length)[j]?=some (.int .u8 y):=by grind
      grind [World.cell?,Yy,List.getElem?_take_of_lt,List.getElem?_eq_some_iff]
    have hlies:=Lib.liesAt_bytes (P:=P) hc1 (cur.size / P.cellsOf e) xs.length (by grind);have e1:(elemOf pt).run P w=.ok e w:=by simp [elemOf,run_underlying hp]
    have e2:(variablesAt ⟨g,0,none⟩ e xs.length).run P w=.ok true w:=by simp [variablesAt,World.shape?,hg,hlies]
    have e3:(loadBytes ⟨g,0,none⟩ .empty xs.length).run P w=.ok (YI xs) w:=by
      have:=Qqs (P:=P) (Zo xs) ⟨g,0,none⟩ .empty hcell;rw [Qjn];refine Eq.trans this ?_;simp
    refine ⟨?_,w.freeze ⟨g,0,none⟩ xs.length,?_,?_⟩
    · show Y8 P (Builtin.unsafeString_ #[pt,it] ty #[.pointer (some ⟨g,0,none⟩),.int .i64 xs.length]) w;rw [Qsp _ _ _ _ _ h0 h63];have hsh:Y8 P (shape g) w:=Qzw hg hpos;have hva:Y8 P (variablesAt ⟨g,0,none⟩ e xs.length) w:=by
        unfold variablesAt;refine Qbm (Tame.program _ (.pure _)).fr0 fun P' w1 hr1=>?_;cases hr1
        grind [Qff,QFt,Qbm]
      have hea:Y8 P (elemOf pt) w:=(Qrx _).fr0;have hla:Y8 P (loadBytes ⟨g,0,none⟩ .empty xs.length) w:=(QIh _ _ _).fr0;have hfa:Y8 P (freeze ⟨g,0,none⟩ xs.length) w:=Qzv (a:=⟨g,0,none⟩) h0 hg hpos;refine @Qbm P _ _ w _ _ hea ?_;intro e' w1 hr1;rw [e1] at hr1;cases hr1;refine @Qbm P _ _ w _ _ hva ?_;intro ok w1 hr1;rw [e2] at hr1;cases hr1;rw [if_pos rfl]
      grind [Qff,Qbm]
    · show (Builtin.unsafeString_ #[pt,it] ty #[.pointer (some ⟨g,0,none⟩),.int .i64 xs.length]).run P w=_;rw [Qsp _ _ _ _ _ h0 h63];simp only [Sem.run_bind,e1,e2,e3,Result.andThen,if_true];rfl
    · refine ⟨same_freeze.2.2.1,same_freeze.1,same_freeze.2.2.2,by rw [Qdf];omega,fun b hb hA=>?_⟩;rw [JW h0,if_neg];intro e;subst e;exact absurd rfl (hA _ (List.mem_cons_self ..))
theorem Qvw {e it pt:TypeId} {zz:Value} {L:List Value} {v:Value} {xs:List U8} {K:Value->World->Prop} {aT:Array TypeId} (hT:aT=#[pt,it]) (hp:P.underlying pt=some (.pointer e)) (hi:EInfo P e 1 1 zz) (hx:Qo n ρ x=JZ v) (hy:Qo n ρ y=.int .i64 xs.length)
  (hown:Own e L w v xs) (h:∀ w',Chg [v] w w'->K (.string (YI xs)) w'):Eff P ⟨d,.call ⟨.builtin .unsafeString,#[x,y],aT⟩,t,p,af,gu⟩ n ρ w K:=by
 subst hT;have e0:execOp (Qo n ρ) ⟨d,.call ⟨.builtin .unsafeString,#[x,y],#[pt,it]⟩,t,p,af,gu⟩=(Builtin.unsafeString_ #[pt,it] t #[JZ v,.int .i64 xs.length] >>= fun v=>Pure.pure (Next.value v)):=by
  simp [execOp,resolve,invoke,builtin,hx,hy]
 refine ⟨fun w1 r=>?_,.inr fun w1 r=>?_⟩
 ·rw [e0];exact Qbm (Qqu hp hi (hown.step (Stepp.ext r.ext) r.ext (fun _ _=>Avoids.nil _))).1 fun _ _ _=>Qff _
 ·rw [e0];obtain ⟨w',hr,hc⟩:=(Qqu (P:=P) (it:=it) (ty:=t) hp hi (hown.step (Stepp.ext r.ext) r.ext (fun _ _=>Avoids.nil _))).2;simp only [Sem.run_bind,hr,Result.andThen,Sem.run_pure,effR];exact h w' ((r.ext.mono (fun _ h=>by cases h)).trans hc)
end
end Go.Gw

end
section
set_option linter.unusedSectionVars false
set_option linter.unusedVariables false
namespace Go.Gw
open Go
section
variable {P:Program} {α:Type} {w:World} {b:Nat} {cs:Array Value} {e:TypeId}
variable {fz:Nat×Nat} {es:Array Event}
end
section
variable {P:Program} [JD P] {n:Nat} {ρ:Env} {w w':World} {b:Nat}
variable {d:Option Nat} {t T U I:TypeId} {p:String} {af:Array Edge} {gu:Option (Nat×Bool)} {x y z:Operand}
omit [JD P] in
theorem QFk {f : FuncId} {fn : Func} {g : Array Value → Sem Value} {args : Array Value} {es : Array Event} (hf : P.funcs[f]? = some fn) (hname : (fn.name == "runtime.NumGoroutine") = false) (hb : fn.body.isNone = true) (hn : Extern.findNext fn = none) (he : Extern.find fn = some g) :
    (callFunc f args).runT P w es=(g args >>= fun v=>Pure.pure (Next.value v)).runT P w (es.push ⟨.mark (.extern f),false,true⟩):=by
  have h1 : fn.name ≠ "runtime.NumGoroutine" := by simp_all
  have h2:fn.body=none:=by simpa using hb
  unfold callFunc;refine (XE (a:=P) (w':=w) (es':=es) rfl).trans ?_;simp_all
omit [JD P] in
theorem QIb {f : FuncId} {fn : Func} {g : Array Value → Sem Value} {args : Array Value} (hf : P.funcs[f]? = some fn) (hname : (fn.name == "runtime.NumGoroutine") = false) (hb : fn.body.isNone = true) (hn : Extern.findNext fn = none) (he : Extern.find fn = some g) (ht : Tame P (g args)) : Tame P (callFunc f args) :=
  .same _ (.mark (.extern f) (g args >>= fun v=>Pure.pure (Next.value v))) (fun w es=>QFk hf hname hb hn he) (.ext f _ (.bnd ht fun _=>.pure _))
theorem Qsv {f : FuncId} {fn : Func} {g : Array Value → Sem Value} {xs : Array Operand} {args : List Value} {aT : Array TypeId} {v : Value} (hf : P.funcs[f]? = some fn) (hname : (fn.name == "runtime.NumGoroutine") = false) (hb : fn.body.isNone = true) (hn : Extern.findNext fn = none) (he : Extern.find fn = some g)
    (ha:(xs.map (Qo n ρ)).toList=args) (hg:g args.toArray=Pure.pure v):Yl P n ρ ⟨d,.call ⟨.value (.func f),xs,aT⟩,t,p,af,gu⟩ w v:=by
  have e:xs.map (Qo n ρ)=args.toArray:=by rw [<-ha]
  have e0:execOp (Qo n ρ) ⟨d,.call ⟨.value (.func f),xs,aT⟩,t,p,af,gu⟩=callFunc f args.toArray:=by
    simp only [execOp,resolve,Deferred.ofValue,invoke,e,Qo,pure_bind,Array.empty_append,Array.append_empty]
  refine YU (by rw [e0];exact QIb hf hname hb hn he (by rw [hg];exact .pure _)) fun w1 e1=>?_;simp_all [run_callFunc_extern]
end
end Go.Gw

end
section
set_option linter.unusedSectionVars false
set_option linter.unusedVariables false
namespace Go.Gw
open Go
def ZL (s:ByteArray) (c:Int):Int:=match (List.range s.size).find? fun i=>s[i]! == c.toNat.toUInt8 with
 | some i=>(i:Int)
 | none=>-1
def Qaa (s:ByteArray) (c:Int):Int:=s.foldl (fun n x=>if x == c.toNat.toUInt8 then n+1 else n) ((0:Nat):Int)
section
variable {P:Program} [JD P] {n:Nat} {ρ:Env} {w:World}
variable {d:Option Nat} {t T U:TypeId} {p:String} {af:Array Edge} {gu:Option (Nat×Bool)} {x y z:Operand}
theorem QKa {f : FuncId} {fn : Func} {aT : Array TypeId} {s : ByteArray} {c : Int} (hf : P.funcs[f]? = some fn) (hname : (fn.name == "runtime.NumGoroutine") = false) (hb : fn.body.isNone = true) (hn : Extern.findNext fn = none) (he : Extern.find fn = some Extern.BytealgIndexByte.indexByte)
    (hx:Qo n ρ x=.string s) (hy:Qo n ρ y=.int .u8 c):Yl P n ρ ⟨d,.call ⟨.value (.func f),#[x,y],aT⟩,t,p,af,gu⟩ w (.int .i64 (ZL s c)):=by
  refine Qsv (args:=[.string s,.int .u8 c]) hf hname hb hn he (by simp [hx,hy]) ?_;show ((Pure.pure s:Sem ByteArray) >>= fun b=>(Pure.pure c.toNat.toUInt8:Sem UInt8) >>= fun c=>match (List.range b.size).find? fun i=>b[i]! == c with
    | some i=>(Pure.pure (goInt i):Sem Value)
    | none=>Pure.pure (goInt (-1)))=_
  rw [pure_bind,pure_bind];unfold ZL;cases (List.range s.size).find? fun i=>s[i]! == c.toNat.toUInt8<;>rfl
theorem QJu {f : FuncId} {fn : Func} {aT : Array TypeId} {s : ByteArray} {c : Int} (hf : P.funcs[f]? = some fn) (hname : (fn.name == "runtime.NumGoroutine") = false) (hb : fn.body.isNone = true) (hn : Extern.findNext fn = none) (he : Extern.find fn = some Extern.BytealgCount.count)
    (hx:Qo n ρ x=.string s) (hy:Qo n ρ y=.int .u8 c):Yl P n ρ ⟨d,.call ⟨.value (.func f),#[x,y],aT⟩,t,p,af,gu⟩ w (.int .i64 (Qaa s c)):=by
  refine Qsv (args:=[.string s,.int .u8 c]) hf hname hb hn he (by simp [hx,hy]) ?_;show ((Pure.pure s:Sem ByteArray) >>= fun b=>(Pure.pure c.toNat.toUInt8:Sem UInt8) >>= fun c=>(Pure.pure (goInt (b.foldl (fun n x=>if x == c then n+1 else n) (0:Nat))):Sem Value))=_;rw [pure_bind,pure_bind];rfl
end
end Go.Gw

end
section
set_option linter.unusedSectionVars false
set_option linter.unusedVariables false
namespace Go.Gw
open Go
section
variable {P:Program} [JD P] {n:Nat} {ρ:Env} {w:World}
variable {d:Option Nat} {t T U:TypeId} {p:String} {af:Array Edge} {gu:Option (Nat×Bool)} {x y z:Operand}
theorem PtRd.shape {α:Type} [Rep α] {L:List Value} {w2:World} {v:Value} {o:Option α} (h:PtRd L w2 v o):∃ a,v=.pointer a/\a.isNone=o.isNone:=by
 cases o with
 | none=>exact ⟨none,h,rfl⟩
 | some r=>obtain ⟨b,h1,_⟩:=h;exact ⟨_,h1,rfl⟩
end
end Go.Gw

end
section
set_option linter.unusedSectionVars false
set_option linter.unusedVariables false
namespace Go.Gw
open Go
def ErrRd (T:TypeId) (v:Value) (k:Int):Prop:=(k=0/\v=.nilIface)\/(0 < k/\v=.iface T (.int .i64 k))\/(k < 0/\∃ U a,U≠T/\v=.iface U (.pointer a))
theorem ErrRd.nil {T:TypeId}:ErrRd T .nilIface 0:=.inl ⟨rfl,rfl⟩
theorem ErrRd.num {T:TypeId} {k:Int} (h:0 < k):ErrRd T (.iface T (.int .i64 k)) k:=.inr (.inl ⟨h,rfl⟩)
theorem ErrRd.ptr {T U:TypeId} {a:Option Addr} (h:U≠T):ErrRd T (.iface U (.pointer a)) (-1):=.inr (.inr ⟨by decide,U,a,h,rfl⟩)
theorem ErrRd.ptrR {α:Type} [Rep α] {T U:TypeId} {L:List Value} {w:World} {v:Value} {o:Option α} (h:U≠T) (hp:PtRd L w v o):ErrRd T (.iface U v) (-1):=by
 obtain ⟨a,rfl,_⟩:=hp.shape;exact .ptr h
structure ErT (P:Program) (T:TypeId):Prop where
 u:P.underlying T=some (.int .i64)
 i:∃ i,P.info? T=some i/\i.comparable=true
section
variable {P:Program} [JD P] {n:Nat} {ρ:Env} {w:World}
variable {d:Option Nat} {t T U I:TypeId} {p:String} {af:Array Edge} {gu:Option (Nat×Bool)} {x y z:Operand} {v:Value} {k j:Int}
omit [JD P] in
theorem QFn {es:Array Event} {i:TypeInfo} (h:P.info? T=some i):(typeInfo T).runT P w es=(.ok i w,es):=by
 unfold typeInfo;refine (XE (a:=P) (w':=w) (es':=es) rfl).trans ?_;rw [h];rfl
omit [JD P] in
theorem QFl {es:Array Event} (hu:∃ ms,P.underlying I=some (.interface ms)) (h:ErrRd T v k):(Op.equal I v .nilIface).runT P w es=(.ok (decide (k=0)) w,es):=by
 obtain ⟨ms,hu⟩:=hu;rw [Op.equal,show Op.maxDepth=9999+1 from rfl,Op.equalIn];rcases h with ⟨rfl,rfl⟩ | ⟨h,rfl⟩ | ⟨h,U,a,_,rfl⟩
 ·exact (XE (Zw hu)).trans rfl
 ·refine (XE (Zw hu)).trans ?_;rw [decide_eq_false (by omega)];rfl
 ·refine (XE (Zw hu)).trans ?_;rw [decide_eq_false (by omega)];rfl
omit [JD P] in
theorem Qqn {es:Array Event} (hu:∃ ms,P.underlying I=some (.interface ms)) (ht:ErT P T) (h:ErrRd T v k) (hj:0 < j):(Op.equal I v (.iface T (.int .i64 j))).runT P w es=(.ok (decide (k=j)) w,es):=by
 obtain ⟨ms,hu⟩:=hu;rw [Op.equal,show Op.maxDepth=9999+1 from rfl,Op.equalIn];rcases h with ⟨rfl,rfl⟩ | ⟨h,rfl⟩ | ⟨h,U,a,hU,rfl⟩
 ·refine (XE (Zw hu)).trans ?_;rw [decide_eq_false (by omega)];rfl
 ·refine (XE (Zw hu)).trans ?_;obtain ⟨i,hi,hc⟩:=ht.i;dsimp only;rw [if_neg (by simp)];refine (XE (QFn hi)).trans ?_;rw [hc];show (Op.equalIn (9998+1) T (.int .i64 k) (.int .i64 j)).runT P w es=_;rw [Op.equalIn];refine (XE (Zw ht.u)).trans ?_;show (Pure.pure (k == j):Sem Bool).runT P w es=_;rfl
 ·refine (XE (Zw hu)).trans ?_;dsimp only;rw [if_pos hU,decide_eq_false (by omega)];rfl
theorem Qkv (hu:∃ ms,P.underlying I=some (.interface ms)) (h:ErrRd T v k) (hx:Qo n ρ x=v):Yl P n ρ ⟨d,.binOp .neq I x (.const .nilIface) U,t,p,af,gu⟩ w (.bool (!decide (k=0))):=XH fun w es=>by
 have hy:Qo n ρ (.const .nilIface)=.nilIface:=rfl;have:=QFl (w:=w) (es:=es) hu h;rcases h with ⟨rfl,rfl⟩ | ⟨_,rfl⟩ | ⟨_,_,_,_,rfl⟩<;>(simp only [execOp,hx,hy,eqGuard,binOp,Bool.or_true,Bool.not_true,Bool.false_eq_true,if_true,if_false];first | exact (XE (XE (a:=()) rfl)).trans ((XE (XE this)).trans rfl) | exact (XE (XE this)).trans rfl)
theorem QKd (hu:∃ ms,P.underlying I=some (.interface ms)) (ht:ErT P T) (h:ErrRd T v k) (hj:0 < j) (hx:Qo n ρ x=v) (hy:Qo n ρ y=.iface T (.int .i64 j)):Yl P n ρ ⟨d,.binOp .neq I x y U,t,p,af,gu⟩ w (.bool (!decide (k=j))):=XH fun w es=>by
 have:=Qqn (w:=w) (es:=es) hu ht h hj;rcases h with ⟨rfl,rfl⟩ | ⟨_,rfl⟩ | ⟨_,_,_,_,rfl⟩<;>(simp only [execOp,hx,hy,eqGuard,binOp];exact (XE (XE this)).trans rfl)
theorem Qgz (hu:∃ ms,P.underlying I=some (.interface ms)) (ht:ErT P T) (h:ErrRd T v k) (hj:0 < j) (hx:Qo n ρ x=v) (hy:Qo n ρ y=.iface T (.int .i64 j)):Yl P n ρ ⟨d,.binOp .eql I x y U,t,p,af,gu⟩ w (.bool (decide (k=j))):=XH fun w es=>by
 have:=Qqn (w:=w) (es:=es) hu ht h hj;rcases h with ⟨rfl,rfl⟩ | ⟨_,rfl⟩ | ⟨_,_,_,_,rfl⟩<;>(simp only [execOp,hx,hy,eqGuard,binOp];exact (XE (XE this)).trans rfl)
theorem Zg (hu:P.underlying U=some (.int .i64)) (hx:Qo n ρ x=v):Yl P n ρ ⟨d,.makeInterface U x,t,p,af,gu⟩ w (.iface U v):=XH fun w es=>by
 simp only [execOp,hx,Instr.makeInterface];exact (XE ((XE (Zw hu)).trans rfl)).trans rfl
theorem Qsy {e:TypeId} (hu:P.underlying U=some (.pointer e)) (hx:Qo n ρ x=v):Yl P n ρ ⟨d,.makeInterface U x,t,p,af,gu⟩ w (.iface U v):=XH fun w es=>by
 simp only [execOp,hx,Instr.makeInterface];exact (XE ((XE (Zw hu)).trans rfl)).trans rfl
end
end Go.Gw

end
