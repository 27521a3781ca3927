/- Laws of the walk. Condition: each theorem says its own. -/
import Derived.Test.YtigpjhlbndfkkaaGreatDoorGwCore
import Derived.Laws.OwnMore
import Derived.Laws.CopyRow
import Derived.Laws.ByValue
import Derived.WalkSpells
set_option linter.unusedVariables false
set_option linter.unusedSimpArgs false
set_option linter.unusedSectionVars false
open Option renaming map_eq_some_iff→Ea,bind_some→El
open List renaming getElem?_map→Eb,getElem?_eq_some_iff→Ec,getElem?_take_of_lt→Ed,replicate→Ee,mem_singleton→Ei,drop_eq_getElem_cons→Ej,getElem?_eq_none→Em,replicate_succ→Eo
open Nat renaming mul_one→Ef,zero_add→Eg,min→Eh,ble→Ek,mul_le_mul_right→En
section
set_option linter.unusedVariables false
namespace Go.Gw
open Go Go.Conc
section
variable {P:Program}
theorem Tame.bindP {α β:Type} {m:Sem α} {f:α->Sem β} (φ:α->Prop) (h:Tame P m) (hφ:∀ w es r w',(m.runT P w es).1=.ok r w'->φ r) (hf:∀ a,φ a->Tame P (f a)):Tame P (m >>= f):=by
  classical
  refine .same _ (m >>= fun a => if φ a then f a else Sem.halt (.stuck "")) (fun w es => ?_) (.bnd h fun a => ?_)
  · rw [show (m >>= f) = m.bind f from rfl, Go.Sem.runT_bind', show (m >>= fun a => if φ a then f a else Sem.halt (.stuck "")) = m.bind _ from rfl, Go.Sem.runT_bind']
    grind
  grind [halt]
def JT:Value->Bool
 | .bool _ | .int _ _ | .string _ | .float _ _=>true
 | _=>false
def NP (v:Value):Prop:=JT v=true\/∃ cs,v=.agg cs/\∀ c∈cs.toList,JT c=true
theorem NP.part {t:TypeId} {cs:Array Value} {off:Nat} (h:∀ c∈cs.toList,JT c=true):∀ w es r w',((part t cs off).runT P w es).1=.ok r w'->NP r:=by
 intro w es r w' hr;rw [Sem.runT_fst] at hr;unfold Go.part at hr;simp only [Sem.run_bind] at hr;cases h1:(isAgg t).run P w with
 | halt x w1=>simp_all
 | ok b w1 =>
  simp only [h1,Result.andThen] at hr;cases b with
  | true =>
   simp only [if_true,Sem.run_bind] at hr;cases h2:(sizeOf t).run P w1 with
   | halt x w2=>simp_all
   | ok k w2 =>
    simp only [h2,Result.andThen,Sem.run_pure] at hr;cases hr;refine .inr ⟨_,rfl,fun c hc=>h c ?_⟩
    grind [List.mem_of_mem_drop,List.mem_of_mem_take,Array.toList_extract,List.extract_eq_take_drop]
  | false =>
   simp only [Bool.false_eq_true,if_false] at hr;split at hr
   ·rename_i v hv;simp only [Sem.run_pure] at hr;cases hr;exact .inl (h _ (Array.mem_toList_iff.2 (Array.mem_of_getElem? hv)))
   trivial
theorem Qbc (t:TypeId) (cs:Array Value) (off:Nat):Tame P (part t cs off):=by
 unfold part;refine .bnd (Qsf _) fun b=>Zo (.bnd (Zy _) fun _=>.pure _) ?_;split<;>first | exact .pure _ | exact X5 _
theorem Qji (t:TypeId) (x y:Value):Tame P (Instr.index t x y):=by
 unfold Instr.index;refine .bnd (Qfm _) fun _=>.bnd (ZW _) fun _=>?_;split
 ·exact Zo (.bnd (Zy _) fun _=>Qbc _ _ _) (Qfo _ _ _ _)
 ·split<;>first | exact .pure _ | exact Qfo _ _ _ _
 ·exact X5 _
theorem Qfq {α β:Type} (f:α->β->Sem (ForInStep β)) (hf:∀ a b,Tame P (f a b)):∀ (xs:List α) (b:β),Tame P (forIn xs b f)
 | [],b=>by rw [List.forIn_nil];exact .pure _
 | x::xs,b=>by
  rw [List.forIn_cons];refine .bnd (hf x b) fun r=>?_;split
  ·exact .pure _
  ·exact Qfq f hf xs _
theorem Qfp:∀ (d:Nat) (t:TypeId) (x y:Value),NP x->Tame P (Op.equalIn d t x y)
  | 0,_,_,_,_=>Z7 _
  | d+1,t,x,y,hx=>by
    have ih:∀ (t t':TypeId) (cs ds:Array Value) (o o':Nat),(∀ c∈cs.toList,JT c=true)->Tame P (part t cs o >>= fun a=>part t' ds o' >>= fun b=>Op.equalIn d t a b):=fun t t' cs ds o o' hc =>
      .bindP NP (Qbc _ _ _) (NP.part hc) fun a ha=>.bnd (Qbc _ _ _) fun b=>Qfp d _ _ _ ha
    unfold Op.equalIn;refine .bnd (ZW _) fun D=>?_;rcases hx with h | ⟨cs,rfl,hc⟩
    · split <;> first
        | exact .pure _
        | exact X5 _
        | exact Z7 _
        | exact Zo (.pure _) (X5 _)
        | trivial
    · split
      all_goals first
        | contradiction
        | exact X5 _
        | exact Z7 _
        | skip
      · rename_i heq;obtain rfl:=Value.agg.inj heq;refine .bnd Qfs fun p=>?_
        have body : ∀ (ys : Array Value) (fs : Array Field), Tame P (forIn fs ((none : Option Bool), ()) fun f __s => (if f.name ≠ "_" then (part f.type cs f.offset >>= fun a => part f.type ys f.offset >>= fun b => Op.equalIn d f.type a b >>= fun r => if (!r) = true then (pure (ForInStep.done (some false, ())) : Sem _) else pure (ForInStep.yield (none, ()))) else pure (ForInStep.yield (none, ())))) := fun ys fs => by
          rw [<-Array.forIn_toList];refine Qfq _ (fun f b=>Zo ?_ (.pure _)) _ _;refine .bindP NP (Qbc _ _ _) (NP.part hc) fun a ha=>.bnd (Qbc _ _ _) fun b=>.bnd (Qfp d _ _ _ ha) fun r=>Zo (.pure _) (.pure _)
        refine Zo (.bnd (Z7 _) fun _=>?_) ?_
        all_goals
          refine .bnd (body _ _) fun r=>?_;dsimp only;split<;>exact .pure _
      · rename_i heq;obtain rfl:=Value.agg.inj heq;refine .bnd (Zy _) fun n=>.bnd ?_ fun r=>?_
        · rw [Std.Legacy.Range.forIn_eq_forIn_range'];refine Qfq _ (fun f b=>?_) _ _;exact .bindP NP (Qbc _ _ _) (NP.part hc) fun a ha=>.bnd (Qbc _ _ _) fun b=>.bnd (Qfp d _ _ _ ha) fun r=>Zo (.pure _) (.pure _)
        · dsimp only;split<;>exact .pure _
end
end Go.Gw

end
section
set_option linter.unusedSectionVars false
namespace Go.Gw
open Go
section
variable {P:Program} [JD P] {n:Nat} {q:Post} {ρ:Env} {w:World}
variable {d:Option Nat} {t T U:TypeId} {p:String} {af:Array Edge} {gu:Option (Nat×Bool)} {x y z:Operand}

theorem Qj {α:Type} {a x:α} (h:some a=some x):a=x:=Option.some.inj h

theorem Q4 {c:Code} (M:Env->World->Prop) (h:∀ K:Env->World->Prop,(∀ ρ w,M ρ w->K ρ w)->WC P n c ⟨K,q.ex,q.ret⟩ ρ w) (h2:∀ ρ w,M ρ w->q.norm ρ w):WC P n c q ρ w :=
 (h M fun _ _ h=>h).mono h2 (fun _ _ _ h=>h) (fun _ _ h=>h)

theorem Qqr {a b:Bool} (hu:P.underlying T=some .bool):(Op.equal T (.bool a) (.bool b)).run P w=.ok (a == b) w:=by
 rw [Op.equal,show Op.maxDepth=9999+1 from rfl,Op.equalIn];simp_all [Sem.run_bind,run_underlying,Result.andThen]
theorem Qsd {a b:Bool} (hu:P.underlying T=some .bool):Tame P (Op.equal T (.bool a) (.bool b)):=by
 rw [Op.equal,show Op.maxDepth=9999+1 from rfl,Op.equalIn];exact .und hu (.pure _)
theorem QJe {a b:Bool} (hu:P.underlying T=some .bool) (hx:Qm n ρ x=.bool a) (hy:Qm n ρ y=.bool b):Yl P n ρ ⟨d,.binOp .eql T x y U,t,p,af,gu⟩ w (.bool (a == b)):=by
 exact Yj (XC (by simp only [eqGuard,binOp,hx,hy];exact .bnd (.pure _) fun _=>.bnd (Qsd hu) fun _=>.pure _)) fun w1 _=>by simp [execOp,hx,hy,eqGuard,binOp,Qqr hu,Result.andThen]
theorem QJq {a b:Bool} (hu:P.underlying T=some .bool) (hx:Qm n ρ x=.bool a) (hy:Qm n ρ y=.bool b):Yl P n ρ ⟨d,.binOp .neq T x y U,t,p,af,gu⟩ w (.bool (!(a == b))):=by
 exact Yj (XC (by simp only [eqGuard,binOp,hx,hy];exact .bnd (.pure _) fun _=>.bnd (Qsd hu) fun _=>.pure _)) fun w1 _=>by simp [execOp,hx,hy,eqGuard,binOp,Qqr hu,Result.andThen]
omit [JD P] in
structure EqS (P:Program) (T:TypeId) (X Y:Array Value) (r:Bool):Prop where
 np:∀ c∈X.toList,JT c=true
 run:∀ w,(Op.equalIn (9999+1) T (.agg X) (.agg Y)).run P w=.ok r w
theorem Qqq {X Y:Value} {r:Bool} (h:(Op.equalIn (9999+1) T X Y).run P w=.ok r w):(Op.equal T X Y).run P w=.ok r w:=by
 trivial
theorem Qsc {X Y:Array Value} {r:Bool} {f:Bool->Bool} (hg:P.eqGuardType P.depth T=false) (h:EqS P T X Y r):Tame P (Op.equal T (.agg X) (.agg Y)):=Qfp _ _ _ _ (.inr ⟨X,rfl,h.np⟩)
theorem Qse {α:Type} {op:BinOp} {X Y:Array Value} {m:Sem α} (hg:P.eqGuardType P.depth T=false) (hm:Tame P m):Tame P (eqGuard op T x y (.agg X) (.agg Y) >>= fun _=>m):=by
 refine .same _ m (fun w es=>?_) hm;simp_all [eqGuard,QY]
theorem Qjs {X Y:Array Value} {r:Bool} (hg:P.eqGuardType P.depth T=false) (hx:Qm n ρ x=.agg X) (hy:Qm n ρ y=.agg Y) (h:EqS P T X Y r):Yl P n ρ ⟨d,.binOp .eql T x y U,t,p,af,gu⟩ w (.bool r) :=
 Yj (XC (by simp only [hx,hy];exact Qse hg (.bnd (Qsc (f:=id) hg h) fun _=>.pure _))) fun w1 _=>by simp [execOp,hx,hy,eqGuard,binOp,Qqq (h.run w1),hg,Result.andThen]
theorem QJt {X Y:Array Value} {r:Bool} (hg:P.eqGuardType P.depth T=false) (hx:Qm n ρ x=.agg X) (hy:Qm n ρ y=.agg Y) (h:EqS P T X Y r):Yl P n ρ ⟨d,.binOp .neq T x y U,t,p,af,gu⟩ w (.bool (!r)) :=
 Yj (XC (by simp only [hx,hy];exact Qse hg (.bnd (Qsc (f:=id) hg h) fun _=>.pure _))) fun w1 _=>by simp [execOp,hx,hy,eqGuard,binOp,Qqq (h.run w1),hg,Result.andThen]

theorem Elems.cons {α:Type} [Rep α] {L:List Value} {cs rest:List Value} {x:α} {xs:List α} (h:Rep.rd L w cs x) (hs:Elems L w rest xs):Elems L w (cs++rest) (x::xs):=(Elems.one h).append hs

end
end Go.Gw
namespace Go.Gw
open Go
section
variable {P:Program} {T:TypeId}
theorem YF {k:Nat} (h:(P.info? T).map (·.size)=some k):Q6 P T k:=by
 cases hi:P.info? T with
 | none=>grind
 | some i=>simp [hi] at h;exact ⟨i,hi,h⟩
theorem Jt {k:Nat} {dsc:TypeDesc} (hm:match dsc with | .struct _ | .array _ _=>True | _=>False) (hu:P.underlying T=some dsc) (h:(P.info? T).map (·.size)=some k):Aggr P T k:=by
 obtain ⟨i,hi,hk⟩:=YF h;exact ⟨dsc,i,hu,hm,hi,hk⟩
theorem Qan {k bytes:Nat} {z:Value} (h:(P.info? T).bind (fun i=>i.zero.map fun z=>(i.size,i.bytes,z))=some (k,bytes,z)) (hz:z.cells.size=k) (hk:0 < k):EInfo P T k bytes z:=by
 cases hi:P.info? T with
 | none=>grind
 | some i =>
  simp only [hi,El,Ea,Prod.mk.injEq] at h;obtain ⟨z',h1,h2,h3,h4⟩:=h;exact ⟨⟨i,hi,h2,h3,by rw [h1,h4],hz,hk⟩⟩
theorem JL {places:List (Nat×Nat)} {zero:List Value} {fs:Array Field} (hu:P.underlying T=some (.struct fs)) (hz:(P.info? T).bind (fun i=>i.zero.map fun z=>z.cells)=some zero.toArray)
  (hp:fs.toList.mapM (fun f=>(P.info? f.type).map fun i=>(f.offset,i.size))=some places):BI P T places zero:=by
 cases hi:P.info? T with
 | none=>grind
 | some i =>
  simp only [hi,El,Ea] at hz;obtain ⟨z,h1,h2⟩:=hz;exact ⟨⟨i,fs,z,hi,hu,h1,h2,hp⟩⟩
theorem ZZ {cs:List Value} (hz:(P.info? T).bind (fun i=>i.zero.map fun z=>z.cells.toList)=some cs):ZI P T cs:=by
 cases hi:P.info? T with
 | none=>grind
 | some i =>
  simp only [hi,El,Ea] at hz;obtain ⟨z,h1,h2⟩:=hz;exact ⟨⟨i,z,hi,h1,h2⟩⟩
end
end Go.Gw
namespace Go.Gw
open Go
theorem Q2 {L:List Value} {w:World} {b:Nat} {cs:List Value} {T:TypeId} (h:LtL L w) (hB:Box w b cs T):LtL (.pointer (some ⟨b,0,none⟩)::L) w:=h.cons fun k hk=>by
 have e:b=k:=by grind [Qv]
 subst e;exact hB.lt
theorem Yv {α:Type} [Rep α] {e:TypeId} {L L':List Value} {w:World} {v:Value} {xs:List α} (h:LtL L w) (hO:Own e L' w v xs):LtL (v::L) w:=h.cons fun _ hk=>hO.blk_lt hk
end Go.Gw
namespace Go.Gw
open Go
theorem ZQ {v:Value} (h:v.oneCell'=true):v.cells.toList=[v]:=by
 cases v<;>first | rfl | cases h

def JS (place:Nat->Option (Nat×Nat)) (cells:List Value):List (Nat×List Value)->Option (List Value)
 | []=>some cells
 | (i,vs)::rest =>
  match place i with
  | none=>none
  | some (off,size)=>bif Nat.beq vs.length size&&Ek (off+vs.length) cells.length then JS place (X4 cells off vs) rest else none
theorem Qmd (place:Nat->Option (Nat×Nat)):∀ (pv:List (Nat×Value)) (cells:List Value),ZS place cells pv=JS place cells (pv.map fun q=>(q.1,q.2.cells.toList))
 | [],_=>rfl
 | (i,v)::rest,cells=>by
  simp only [ZS,JS,List.map_cons];cases place i with
  | none=>rfl
  | some p=>simp only [Qmd place rest]

section
variable {P:Program} [JD P] {n:Nat} {q:Post} {ρ:Env} {w:World}
variable {d:Option Nat} {t T U:TypeId} {p:String} {af:Array Edge} {gu:Option (Nat×Bool)} {x y z:Operand}
def PC (n:Nat) (ρ:Env) (parts:List (Nat×Operand)) (pc:List (Nat×List Value)):Prop:=parts.map (fun q=>(q.1,(Qm n ρ q.2).cells.toList))=pc
theorem QV:PC n ρ [] []:=rfl
theorem QC {i:Nat} {v:Value} {cs:List Value} {ps:List (Nat×Operand)} {pc:List (Nat×List Value)} (h:Qm n ρ x=v) (hc:v.cells.toList=cs) (hs:PC n ρ ps pc):PC n ρ ((i,x)::ps) ((i,cs)::pc):=by
 grind [PC]
theorem PC.fill {parts:List (Nat×Operand)} {pc:List (Nat×List Value)} {place:Nat->Option (Nat×Nat)} {cells out:List Value} (h:PC n ρ parts pc) (hf:JS place cells pc=some out):ZS place cells (parts.map fun q=>(q.1,Qm n ρ q.2))=some out:=by
 rw [Qmd,List.map_map];unfold PC at h;rw [<-hf,<-h];rfl
theorem XI {cells zero:List Value} {places:List (Nat×Nat)} {parts:List (Nat×Operand)} {pc:List (Nat×List Value)} (hB:BI P T places zero) (hp:PC n ρ parts pc) (h:JS (places[·]?) zero pc=some cells) :
  Yl P n ρ ⟨d,.build T parts.toArray,t,p,af,gu⟩ w (.agg cells.toArray):=QIx hB (hp.fill h)
theorem Xu {α:Type} [Rep α] {e:TypeId} {bytes:Nat} {z:Value} {L:List Value} {len:Nat} {xs:List α} {cells:List Value} {parts:List (Nat×Operand)} {pc:List (Nat×List Value)} {K:Value->World->Prop}
  (hu:P.underlying T=some (.slice e)) (hi:EInfo P e (Rep.n α) bytes z) (hsmall:Ek (len * Rep.n α) 16777216=true)
  (hp:PC n ρ parts pc) (hf:JS (fun i=>some (i * Rep.n α,Rep.n α)) (Qab z.cells.toList (len * Rep.n α)) pc=some cells)
  (hel:Elems L w cells xs) (hl:xs.length=len) (hlt:LtL L w)
  (h:∀ b w',Ext w w'->SlRd L w' (.slice (some ⟨b,0,none⟩) len len) xs->K (.slice (some ⟨b,0,none⟩) len len) w'):Eff P ⟨d,.buildSlice T len parts.toArray,t,p,af,gu⟩ n ρ w K :=
 Qvn hu hi hsmall (hp.fill hf) hel hl hlt h
theorem Qvm {α:Type} [Rep α] {e:TypeId} {bytes:Nat} {z:Value} {L:List Value} {len:Nat} {xs:List α} {cells:List Value} {parts:List (Nat×Operand)} {pc:List (Nat×List Value)} {K:Value->World->Prop}
  (hu:P.underlying T=some (.slice e)) (hi:EInfo P e (Rep.n α) bytes z) (hsmall:Ek (len * Rep.n α) 16777216=true)
  (hp:PC n ρ parts pc) (hf:JS (fun i=>some (i * Rep.n α,Rep.n α)) (Qab z.cells.toList (len * Rep.n α)) pc=some cells)
  (hel:Elems L w cells xs) (hl:xs.length=len)
  (h:∀ v w',Ext w w'->(∀ b,Qv v=some b->w.heap.size<=b)->Own e (v::L) w' v xs->K v w'):Eff P ⟨d,.buildSlice T len parts.toArray,t,p,af,gu⟩ n ρ w K :=
 Qvk hu hi hsmall (hp.fill hf) hel hl h
end
end Go.Gw
namespace Go.Gw
open Go
section
variable {P:Program} [JD P] {n:Nat} {ρ:Env} {w:World}
variable {d:Option Nat} {t T U:TypeId} {p:String} {af:Array Edge} {gu:Option (Nat×Bool)} {x y z:Operand}
theorem Qdz {f : FuncId} {fn : Func} {c : Code} {xs : Array Operand} {aT : Array TypeId} {args : List Value} {K Φ : Value → World → Prop} (hy : Qm n ρ y = .func (.func f) #[] #[]) (hf : P.funcs[f]? = some fn) (hname : (fn.name == "runtime.NumGoroutine") = false) (hb : fn.body = some c)
    (ha:(xs.map (Qm n ρ)).toList=args) (hc:CallsTo P f args w Φ) (h:∀ v w',Φ v w'->K v w'):Eff P ⟨d,.call ⟨.value y,xs,aT⟩,t,p,af,gu⟩ n ρ w K:=by
  have e:xs.map (Qm n ρ)=args.toArray:=by rw [<-ha]
  have this:∀ w es,(execOp (Qm n ρ) ⟨d,.call ⟨.value y,xs,aT⟩,t,p,af,gu⟩).runT P w es=(.ok (.enter f args.toArray) w,es):=fun w es=>by
    refine Eq.trans ?_ (Qqi (args:=args.toArray) hf hname hb);simp_all [execOp,resolve,Deferred.ofValue,invoke,pure_bind,Array.empty_append,Array.append_empty]
  refine ⟨(Tame.still _ this).fr,.inr fun w1 r=>?_⟩;rw [show (execOp (Qm n ρ) ⟨d,.call ⟨.value y,xs,aT⟩,t,p,af,gu⟩).run P w1=_ from by rw [<-Sem.runT_fst P _ w1 #[],this]];exact CallsJ.rely (CallsTo.mono hc h) r
theorem At.elem {a:Addr} {cs:List Value} {i:Nat} {u:Value} (h:At w a cs) (hi:cs[i]?=some u):At w (a.add (i * 1)) [u]:=by
 have h2:=(At.drop h i).take 1;rw [Ef]
 grind [take,Ej,Ec]
end
end Go.Gw
namespace Go.Gw
open Go
theorem Qap {xs:List Int} {i el:Int} (h:idx xs i=some el):i < xs.length:=by obtain ⟨h0,h1,_⟩:=YD h;omega
theorem Qec {w:World} {a:Addr} {xs:List Int} {i el:Int} (h:At w a (xs.map (Value.int .i64))) (hi:idx xs i=some el):At w (a.add (i.toNat * 1)) [.int .i64 el] :=
 At.elem h (by rw [Eb,(YD hi).2.2];rfl)
end Go.Gw

end
section
set_option linter.unusedSectionVars false
namespace Go.Gw
open Go
section
variable {P:Program} [JD P] {n:Nat} {ρ:Env} {w:World}
variable {d:Option Nat} {t T U:TypeId} {p:String} {af:Array Edge} {gu:Option (Nat×Bool)} {x y z:Operand}

theorem QIy {cells zero:List Value} {m e sz:Nat} {parts:List (Nat×Operand)} {pc:List (Nat×List Value)} (hu:P.underlying T=some (.array m e)) (hs:Q6 P e sz) (hz:ZI P T zero) (hp:PC n ρ parts pc)
  (h:JS (fun i=>some (i * sz,sz)) zero pc=some cells):Yl P n ρ ⟨d,.build T parts.toArray,t,p,af,gu⟩ w (.agg cells.toArray):=by
 obtain ⟨it,z,h1,h3,h4⟩:=hz.ex;obtain ⟨ie,he,hsz⟩:=hs;have h':P.built T (parts.toArray.map fun (i,x)=>(i,Qm n ρ x)).toList=some cells.toArray:=by
  simp only [Program.built,h1,hu,h3,he,hsz];have:=Qea _ _ _ (hp.fill h);have hz':z.cells=zero.toArray:=by rw [<-h4]
  simp_all
 grind [Yj,XC,Qrx,execOp,Sem.run_bind,run_build,Result.andThen,Sem.run_pure]

theorem Qbe {e m sz:Nat} {k:IntKind} {i:Int} {a:Addr} {v:Value} (hu:P.underlying T=some (.array m e)) (hs:Q6 P e sz) (h0:0<=i) (h1:i < m) (hx:Qm n ρ x=.pointer (some a)) (hy:Qm n ρ y=.int k i)
  (hv:v=.pointer (some (a.add (i.toNat * sz)))):Yl P n ρ ⟨d,.indexAddr T x y,t,p,af,gu⟩ w v:=by grind [JH]

theorem Qiu {cs:List Value} {off:Nat} {v:Value} (hT:Y5 P T) (h:cs[off]?=some v):(part T cs.toArray off).run P w=.ok v w:=by
 simp [part,Qqs hT,h]
theorem QJk {fs:Array Field} {f:Field} {cs:List Value} {i:Nat} {v:Value} (hu:P.underlying T=some (.struct fs)) (hf:fs[i]?=some f) (hT:Y5 P f.type) (hx:Qm n ρ x=.agg cs.toArray)
  (h:cs[f.offset]?=some v):Yl P n ρ ⟨d,.field T x i,t,p,af,gu⟩ w v:=QJi hu hf hx (Qiu hT h)
theorem QJn {m e:Nat} {k:IntKind} {i el:Int} {xs:List Int} {ke:IntKind} (hu:P.underlying T=some (.array m e)) (hs:Y5 P e) (hz:Q6 P e 1) (hl:xs.length=m) (hx:Qm n ρ x=.agg (xs.map (Value.int ke)).toArray) (hy:Qm n ρ y=.int k i)
  (h:idx xs i=some el):Yl P n ρ ⟨d,.index T x y,t,p,af,gu⟩ w (.int ke el):=by
 obtain ⟨h0,h1,h2⟩:=YD h;have h1':i < (m:Int):=by omega
 refine Yj (XC (Qji _ _ _)) fun w1 _=>?_;have hp:(part e (xs.map (Value.int ke)).toArray (i.toNat * 1)).run P w1=.ok (.int ke el) w1:=Qiu hs (by simp_all);simp [execOp,hx,hy,Instr.index,asIntOf,run_underlying hu,h0,h1',YW hz] at hp ⊢;simp [hp]

def J4 {α:Type} (i:Nat) (v:α):Nat->List α->List α
 | _,[]=>[]
 | k,x::xs=>(bif Nat.beq i k then v else x)::J4 i v (k+1) xs
theorem QFr {α:Type} (i:Nat) (v:α):∀ (xs:List α) (k:Nat),J4 (i+k) v k xs=xs.set i v:=by
 intro xs
 induction xs generalizing i with
 | nil=>intro k;rfl
 | cons x xs ih =>
  intro k;cases i with
  | zero =>
   simp only [J4,List.set_cons_zero,Eg,Qoh,cond_true];congr 1;have key:∀ (ys:List α) (j:Nat),k < j->J4 k v j ys=ys:=by
    intro ys
    induction ys with
    | nil=>intro j _;rfl
    | cons y ys ih'=>grind [Qer,J4]
   simp_all
  | succ i =>
   simp only [J4,List.set_cons_succ];rw [Qer (by omega)];have:=ih i (k+1)
   grind
theorem QFs {α:Type} (i:Nat) (v:α) (xs:List α):xs.set i v=J4 i v 0 xs:=(QFr i v xs 0).symm

theorem Qlv {b:Nat} {i el v:Int} {xs ys:List Int} {ke:IntKind} {cs:List Value} {T':TypeId} {K:Value->World->Prop} (hs:Q6 P T 1) (hx:Qm n ρ x=.pointer (some (Addr.add ⟨b,0,none⟩ (i.toNat * 1)))) (hy:Qm n ρ y=.int ke v)
  (hi:idx xs i=some el) (hcs:cs=xs.map (Value.int ke)) (hb:Box w b cs T') (hys:J4 i.toNat v 0 xs=ys)
  (h:∀ w',Chg [.pointer (some ⟨b,0,none⟩)] w w'->Box w' b (ys.map (Value.int ke)) T'->K undef w'):Eff P ⟨d,.store T x y,t,p,af,gu⟩ n ρ w K:=by
 obtain ⟨h0,h1,h2⟩:=YD hi;subst hcs;rw [X2,Ef,Eg] at hx;refine Ys (vs:=[.int ke v]) (k:=1) hs rfl rfl hx hy hb (by simp [Nat.ble_eq];omega) (by simp [Value.oneCell']) (cs':=ys.map (Value.int ke)) ?_ h;rw [<-hys,<-QFs];simp [X4,List.map_set]
end
end Go.Gw

end
section
set_option linter.unusedSectionVars false
namespace Go.Gw
open Go
section
variable {P:Program} [JD P] {n:Nat} {q:Post} {ρ:Env} {w:World}

inductive Pl where
 | done
 | p (i:Nat) (r:Pl)
 | q (i:Nat) (r:Pl)
 | e (i:Nat) (r:Pl)
 | b (i:Nat) (r:Pl)
 | f (i:Nat) (r:Pl) (j:Nat) (s:Pl)
def Pl.hasQ:Pl->Bool
 | .done=>false
 | .p _ r=>r.hasQ
 | .q _ _=>true
 | .e _ r=>r.hasQ
 | .b _ _=>false
 | .f _ r _ s=>r.hasQ||s.hasQ
def Pl.len:Pl->Nat
 | .done=>0
 | .p _ r=>r.len+1
 | .q _ r=>r.len+1
 | .e _ r=>r.len+1
 | .b _ r=>r.len+1
 | .f _ r _ _=>r.len+1
def Pl.brk:Pl->List Nat
 | .done=>[]
 | .p _ r=>r.brk
 | .q _ r=>r.brk
 | .e _ r=>r.brk
 | .b i r=>i::r.brk
 | .f _ r _ s=>r.brk++s.brk

def TP (P:Program) [JD P] (n:Nat) (ops:List Oper) (S:World->Prop) (K:Env->World->Prop):Pl->Env->World->Prop
  | .done,ρ,w=>K ρ w
  | .p i r,ρ,w=>∃ o v,ops[i]?=some o/\Quiet P n ops.toArray (fun _=>True) o ρ v/\TP P n ops S K r (Xp ρ o.dst v) w
  | .q i r,ρ,w=>∃ o v,ops[i]?=some o/\Quiet P n ops.toArray S o ρ v/\TP P n ops S K r (Xp ρ o.dst v) w
  | .e i r,ρ,w=>∃ o,ops[i]?=some o/\Stp P n ops.toArray o ρ w (fun ρ' w'=>S w'/\TP P n ops S K r ρ' w')
  | .b i r,ρ,w=>∃ o,ops[i]?=some o/\Stp P n ops.toArray o ρ w (fun ρ' w'=>TP P n ops S K r ρ' w')
  | .f i r j s, ρ, w => (∃ o, ops[i]? = some o /\ Stp P n ops.toArray o ρ w (fun ρ' w' => S w' /\ TP P n ops S K r ρ' w')) /\
      (∃ o,ops[j]?=some o/\Stp P n ops.toArray o ρ w (fun ρ' w'=>S w'/\TP P n ops S K s ρ' w'))

def Zv (ops:Array Oper) (bs:List Nat):Pl->Array Bool->Bool
 | .done,listed=>(Region.ready .any ops listed).isEmpty
 | .p i r,listed=>Region.free .any ops listed i&&(Region.ready .any ops listed).contains i&&Zv ops bs r (listed.setIfInBounds i true)
 | .q i r,listed=>(bs.all fun b=>Qat ops ops.size b i)&&Region.free .any ops listed i&&(Region.ready .any ops listed).contains i&&Zv ops bs r (listed.setIfInBounds i true)
 | .e i r,listed=>Region.ready .any ops listed == [i]&&(!bs.contains i&&Zv ops bs r (listed.setIfInBounds i true))
 | .b i r,listed=>Region.ready .any ops listed == [i]&&(bs.contains i&&(!r.hasQ&&Zv ops bs r (listed.setIfInBounds i true)))
 | .f i r j s,listed=>Region.ready .any ops listed == [i,j]&&(Nat.beq r.len s.len&&(!bs.contains i&&(!bs.contains j&&(Zv ops bs r (listed.setIfInBounds i true)&&Zv ops bs s (listed.setIfInBounds j true)))))

def Qpp (ops:Array Oper) (p:Pl):Bool:=Region.noSelect ops&&(Nat.beq p.len ops.size&&Zv ops p.brk p (Array.replicate ops.size false))

theorem QId {listed:Array Bool} {i x:Nat} (h:(listed.setIfInBounds i true).getD x true=false):listed.getD x true=false/\x≠i:=by
 by_cases hx:i=x
 ·simp_all
 ·rw [getD_set_ne true hx] at h;grind

section
variable {S:World->Prop} {K:Env->World->Prop} {ops:List Oper} {o:Oper} {i:Nat} {r:Pl} {v:Value}
end
end
end Go.Gw

end
section
set_option linter.unusedSectionVars false
namespace Go.Gw
open Go
section
variable {P:Program} [JD P] {n:Nat} {ρ:Env} {w:World}
variable {d:Option Nat} {t T U:TypeId} {p:String} {af:Array Edge} {gu:Option (Nat×Bool)} {x y z:Operand}

theorem Qbl {α:Type} [Rep α] {e:TypeId} {L:List Value} {v:Value} {xs:List α} {i:Int} {el y':α} {off k:Nat} {u:Value} {vs:List Value} {K:Value->World->Prop} (hs:Q6 P T k) (hc:u.cells.toList=vs) (hk:vs.length=k) (hown:Own e L w v xs) (hv:v∈L) (hel:idx xs i=some el)
  (hx:Qm n ρ x=.pointer (some ((Xv v i.toNat (Rep.n α)).add off))) (hy:Qm n ρ y=u) (hl:Ek (off+k) (Rep.n α)=true) (h1:∀ c∈vs,c.oneCell'=true)
  (hset:∀ w' cs,Rep.rd L w' cs el->Rep.rd L w' (X4 cs off vs) y')
  (h:∀ w',Chg [v] w w'->Own e L w' v (xs.set i.toNat y')->K undef w'):Eff P ⟨d,.store T x y,t,p,af,gu⟩ n ρ w K:=by
 subst hc;subst hk;have e:u.cells.toList.length=u.cells.size:=by simp
 exact Qvv (by trivial) hown hv hel hx hy (by simp_all) h1 hset h

def mk {α:Type} (i:Int) (zero:α):Option (List α):=if 0<=i/\i<=1048576 then some (Ee i.toNat zero) else none
theorem QAv {α:Type} {i:Int} {zero:α} {xs:List α} (h:mk i zero=some xs):0<=i/\i<=1048576/\xs=Ee i.toNat zero:=by
 grind [mk]

theorem Elems.replicate {α:Type} [Rep α] {L:List Value} {c:Value} {zero:α} (h1:Rep.n α=1) (hz:Rep.rd L w [c] zero):∀ m:Nat,Elems L w (Ee m c) (Ee m zero)
 | 0=>Elems.nil
 | m+1=>by
  rw [Eo,Eo];exact Elems.cons (cs:=[c]) hz (Elems.replicate h1 hz m)

theorem QAt (c:Value) (m:Nat):(madeCells #[c] m).toList=Ee m c:=by
 apply List.ext_getElem
 ·simp [madeCells]
 simp_all [madeCells,Nat.mod_one]

theorem Qlu {α:Type} [Rep α] {e:TypeId} {bytes:Nat} {c:Value} {L:List Value} {i:Int} {zero:α} {xs:List α} {k k':IntKind} {K:Value->World->Prop} (h1:Rep.n α=1) (hu:P.underlying T=some (.slice e)) (hi:EInfo P e 1 bytes c) (hcc:c.cells=#[c])
    (hbm:Ek bytes 65536=true) (hz:∀ L w,Rep.rd L w [c] zero) (hx:Qm n ρ x=.int k i) (hy:Qm n ρ y=.int k' i) (hm:mk i zero=some xs)
    (h:∀ v w',Ext w w'->(∀ b,Qv v=some b->w.heap.size<=b)->Own e (v::L) w' v xs->K v w'):Eff P ⟨d,.makeSlice T x y,t,p,af,gu⟩ n ρ w K:=by
  obtain ⟨h0,hmax,rfl⟩:=QAv hm;obtain ⟨ti,g1,g2,g3,g4,_,_⟩:=hi.ex;have hbm:bytes<=65536:=by simpa using hbm
  obtain ⟨m,rfl⟩:∃ m:Nat,i=(m:Int):=⟨i.toNat,by omega⟩;have hmm:m<=1048576:=by omega
  have hb:ti.bytes * m<=281474976710656:=by
    rw [g3]
    calc bytes * m<=65536 * 1048576:=Nat.mul_le_mul hbm hmm
      _<=_:=by decide
  refine ZE (XC (QHn _ _ _)) fun w1 e1=>?_;obtain ⟨w',hr,ho,hg⟩:=run_makeSlice_full (P:=P) (w:=w1) 0 T e ti c 1 hu g1 g4 g2 k k' m (by omega) hb (by unfold maxLen;omega) (Nat.zero_le _);have he:Ext w1 w':=⟨hg.os,hg.tape,hg.output,hg.size,fun b hb _=>hg.block b hb (fun e=>by cases e)⟩;simp only [execOp,hx,hy,Sem.run_bind,hr,Result.andThen,Sem.run_pure,effR];refine h _ w' (e1.trans he) (fun b hb=>by have:=e1.size;grind [Qv]) ⟨(madeCells c.cells (m * 1)).toList,?_,?_⟩
  · simp_all
  simp_all [Ef,QAt,Int.toNat_natCast,Elems.replicate]
end
end Go.Gw

end
section
set_option linter.unusedSectionVars false
namespace Go.Gw
open Go
section
variable {P:Program} [JD P] {n:Nat} {ρ:Env} {w:World}
variable {d:Option Nat} {t T U:TypeId} {p:String} {af:Array Edge} {gu:Option (Nat×Bool)} {x y z:Operand}

theorem QJy {e m sz:Nat} {a:Addr} (hu:P.underlying T=some (.array m e)) (hs:Q6 P e sz) (hm:0 < m) (hx:Qm n ρ x=.pointer (some a)) :
  Yl P n ρ ⟨d,.slice T x none none none,t,p,af,gu⟩ w (.slice (some (a.add (0 * sz))) m m):=by
 have h:¬ m=0:=by omega
 exact Yj (XC (JF _ _ _ _ _)) fun w1 _=>by simp [execOp,hx,Instr.sliceAt,run_underlying hu,Instr.sureAddr,Instr.sliceBounds,YW hs,h]
def ZR (l:List Int):List Int->List Int
 | []=>[]
 | x::xs=>match l with
  | []=>x::xs
  | y::l=>y::ZR l xs
theorem Qlk:∀ (xs l:List Int),ZR l xs=l.take (Eh l.length xs.length)++xs.drop (Eh l.length xs.length)
 | [],l=>by simp [ZR]
 | x::xs,[]=>by simp [ZR]
 | x::xs,y::l=>by
  simp only [ZR,List.length_cons];have:Eh (l.length+1) (xs.length+1)=Eh l.length xs.length+1:=by simp only [Nat.min_def];split<;>split<;>omega
  rw [this,List.take_succ_cons,List.drop_succ_cons,Qlk xs l];rfl

theorem Qut {b:Nat} {old cs:Array Value} {T':TypeId} {fr:Nat×Nat} (_hb:w.heap[b]?=some (.cells old T' fr)):Chg [.pointer (some ⟨b,0,none⟩)] w (w.setRow b cs) :=
 ⟨rfl,rfl,rfl,by simp,fun k _ hA=>setRow_other w b k cs (fun e=>hA _ (Ei.2 rfl) (by simp [Qv,e]))⟩

theorem QFe (w:World) (dT sT ty elem:TypeId) (a:Addr) (dLen dCap:Nat) (a0:Option Addr) (hu:P.underlying dT=some (.slice elem)) (hs:((P.info? elem).map (·.size)).isSome=true) :
  (Builtin.copy_ #[dT,sT] ty #[.slice (some a) dLen dCap,.slice a0 0 0]).run P w=.ok (goInt 0) w:=by
 cases hq:P.info? elem with
 | none=>grind
 | some i =>
  have hl0:∀ a:Addr,(loadCells a 0).run P w=.ok #[] w:=fun a=>run_loadCells_list (P:=P) w a [] (fun j v hv=>by simp at hv)
  cases a0<;>simp [Builtin.copy_,run_underlying hu,Builtin.lenOf,Builtin.firstCells,sizeOf,typeInfo,hq,storeCells,hl0]
theorem Qsa {aT:Array TypeId} {vx vy:Value} (hx:Qm n ρ x=vx) (hy:Qm n ρ y=vy):Tame P (execOp (Qm n ρ) ⟨d,.call ⟨.builtin .copy,#[x,y],aT⟩,t,p,af,gu⟩):=by
 have e0:execOp (Qm n ρ) ⟨d,.call ⟨.builtin .copy,#[x,y],aT⟩,t,p,af,gu⟩=(Builtin.copy_ aT t #[vx,vy] >>= fun v=>Pure.pure (Next.value v)):=by
  simp [execOp,resolve,invoke,builtin,hx,hy]
 grind [XC,Qrz]
theorem Qve {e:Nat} {b m:Nat} {xs ys zs:List Int} {L:List Value} {vx:Value} {cs:List Value} {T':TypeId} {K:Value->World->Prop} {aT:Array TypeId} (hu:P.underlying T=some (.slice e)) (hs:Q6 P e 1) (hT:aT=#[T,U]) (hx:Qm n ρ x=.slice (some ⟨b,0,none⟩) m m) (hy:Qm n ρ y=vx)
    (hb:Box w b cs T') (hcs:cs=xs.map (Value.int .i64)) (hm:xs.length=m) (hr:SlRd L w vx ys) (hz:ZR ys xs=zs)
    (h:∀ w',Chg [.pointer (some ⟨b,0,none⟩)] w w'->Box w' b (zs.map (Value.int .i64)) T'->K (.int .i64 (Eh ys.length m:Nat)) w'):effR P K ((execOp (Qm n ρ) ⟨d,.call ⟨.builtin .copy,#[x,y],aT⟩,t,p,af,gu⟩).run P w):=by
  subst hT;subst hm;subst hcs;subst hz;have hsz:(P.info? e).map (·.size)=some 1:=by obtain ⟨i,hi,hk⟩:=hs;grind
  rcases hr with ⟨a0,rfl,rfl⟩ | ⟨bs,off,cap,cur,e',fz,rfl,hbs,_,h4,h5,h6,h7⟩
  · have hrun:=QFe (P:=P) w T U t e ⟨b,0,none⟩ xs.length xs.length a0 hu (by grind);simp [effR,execOp,resolve,invoke,builtin,hx,hy,hrun,goInt]
    have := h w (Chg.refl _ _) (by have : ZR [] xs = xs := by cases xs <;> rfl
                                   simp_all)
    trivial
  · obtain ⟨k,hk⟩:∃ k,k=Eh ys.length xs.length:=⟨_,rfl⟩;have hlen:((ys.take k).map (Value.int .i64)).length=Eh ys.length xs.length:=by
      simp_all
    have hsrc:∀ j v,((ys.take k).map (Value.int .i64))[j]?=some v->w.cell? (Addr.add ⟨bs,off,none⟩ j)=some v:=fun j v hv=>by
      rw [Eb] at hv;cases hj:(ys.take k)[j]? with
      | none=>grind
      | some u =>
        simp [hj] at hv;have hj':ys[j]?=some u:=by
          grind
        have h8:((((cur.toList.drop off).take (ys.length * 1)).drop (j * 1)).take 1)=[.int .i64 u]:=h7.2 j u hj';rw [X2];have h9:cur[off+j]?=some (.int .i64 u):=by
          have:((((cur.toList.drop off).take (ys.length * 1)).drop (j * 1)).take 1)[0]?=some (.int .i64 u):=by rw [h8];rfl
          grind
        grind [World.cell?]
    have hrun:=run_copy_row (P:=P) w T U t e b 0 xs.length xs.length ⟨bs,off,none⟩ ys.length cap _ T' ((ys.take k).map (Value.int .i64)) hu hsz hb hlen hsrc (by grind) (fun v hv=>by obtain ⟨u,_,rfl⟩:=List.mem_map.1 hv;rfl);simp only [Eg] at hrun;simp [effR,execOp,resolve,invoke,builtin,hx,hy,hrun,goInt];have hkl:k<=ys.length:=by grind
    have e1:min k ys.length=k:=Nat.min_eq_left hkl;have e2:(List.take k (List.map (Value.int .i64) ys)++List.drop (min k ys.length) (List.map (Value.int .i64) xs))=(ZR ys xs).map (Value.int .i64):=by
      grind [Qlk,List.map_take,List.map_drop]
    rw [e2,e1];have h2:=h (w.setRow b ((ZR ys xs).map (Value.int .i64)).toArray) (Qut hb) (setRow_heap w b _ _ T' (0,0) hb);simp_all

theorem Qvo {e:Nat} {b m:Nat} {xs ys zs:List Int} {L:List Value} {vx:Value} {cs:List Value} {T':TypeId} {K:Value->World->Prop} {aT:Array TypeId} (hu:P.underlying T=some (.slice e)) (hs:Q6 P e 1) (hT:aT=#[T,U]) (hx:Qm n ρ x=.slice (some ⟨b,0,none⟩) m m) (hy:Qm n ρ y=vx)
  (hb:Box w b cs T') (hcs:cs=xs.map (Value.int .i64)) (hm:xs.length=m) (hr:SlRd L w vx ys) (hz:ZR ys xs=zs)
  (h:∀ w',Chg [.pointer (some ⟨b,0,none⟩)] w w'->Box w' b (zs.map (Value.int .i64)) T'->K (.int .i64 (Eh ys.length m:Nat)) w'):Eff P ⟨d,.call ⟨.builtin .copy,#[x,y],aT⟩,t,p,af,gu⟩ n ρ w K :=
 ZE (Qsa hx hy) fun w1 e1=>Qve hu hs hT hx hy (hb.ext e1) hcs hm (hr.step (Stepp.ext e1)) hz fun w' c b=>h w' ((e1.mono (fun _ h=>by cases h)).trans c) b

theorem QKa {e m sz:Nat} {a:Addr} {v:Value} (hu:P.underlying T=some (.array m e)) (hs:Q6 P e sz) (hm:Nat.blt 0 m=true) (hx:Qm n ρ x=.pointer (some a)) (hv:v=.slice (some (a.add (0 * sz))) m m) :
  Yl P n ρ ⟨d,.slice T x none none none,t,p,af,gu⟩ w v:=by grind [QJy,Nat.blt_eq]
theorem Qkr {L:List Value} {b:Nat} (hL:LtL L w) (hb:w.heap.size<=b):Avoids L b:=fun x hx e=>by have:=hL x hx b e;omega
end
end Go.Gw
namespace Go.Gw
theorem Qux (ys:List Int) (a0 a1 a2 a3 a4 a5 a6 a7 a8 a9 a10 a11:Int):ZR ys [a0,a1,a2,a3,a4,a5,a6,a7,a8,a9,a10,a11] =
  [ys.getD 0 a0,ys.getD 1 a1,ys.getD 2 a2,ys.getD 3 a3,ys.getD 4 a4,ys.getD 5 a5,ys.getD 6 a6,ys.getD 7 a7,ys.getD 8 a8,ys.getD 9 a9,ys.getD 10 a10,ys.getD 11 a11]:=by
 rcases ys with _ | ⟨y0,_ | ⟨y1,_ | ⟨y2,_ | ⟨y3,_ | ⟨y4,_ | ⟨y5,_ | ⟨y6,_ | ⟨y7,_ | ⟨y8,_ | ⟨y9,_ | ⟨y10,_ | ⟨y11,ys⟩⟩⟩⟩⟩⟩⟩⟩⟩⟩⟩⟩<;>simp [ZR]
end Go.Gw

end
section
set_option linter.unusedSectionVars false
namespace Go.Gw
open Go
section
variable {P:Program} [JD P] {n:Nat} {ρ:Env} {w:World}
theorem Qkc {ops:Array Oper} {K:Env->World->Prop} {o:Oper} {os:List Oper} (Φ:Value->World->Prop) (b:Bool) (hw:XF ops o n ρ=b) (ht:b=true->Eff P o n ρ w (fun v w'=>Ext w w'/\Φ v w'))
    (h:∀ v w',Ext w w'->(b=true->Φ v w')->T0 P n ops K os (Xp ρ o.dst (gd b v)) w'):T0 P n ops K (o::os) ρ w :=
  Qkb b hw (fun hb=>(ht hb).mono fun v w' ⟨he,hv⟩=>by grind [Qg])
    (fun hb=>by simp_all [Qcz,undef,Chg.refl])
end
end Go.Gw

end
section
set_option linter.unusedSectionVars false
namespace Go.Gw
open Go
section
variable {P:Program} [JD P] {n:Nat} {q:Post} {ρ:Env} {w:World}
end
end Go.Gw

end
section
set_option linter.unusedSectionVars false
namespace Go.Gw
open Go
section
variable {P:Program} [JD P] {n:Nat} {ρ:Env} {w w':World}
variable {d:Option Nat} {t T U:TypeId} {p:String} {af:Array Edge} {gu:Option (Nat×Bool)} {x y z:Operand}
def Jb (H:List Value) (w:World) (b:Nat):Prop:=w.heap.size<=b\/¬ Avoids H b
theorem Chg.freshH {H0 H:List Value} {a b c:World} (h:Chg H0 a b) (k:Chg H b c) (hf:∀ x∈H,∀ n,Qv x=some n->Jb H0 a n):Chg H0 a c :=
 ⟨k.os.trans h.os,k.tape.trans h.tape,k.output.trans h.output,Nat.le_trans h.size k.size,fun i hi hA=>(k.block i (Nat.lt_of_lt_of_le hi h.size) (fun x hx e=>by
  rcases hf x hx i e with h1 | h1
  ·omega
  grind)).trans (h.block i hi hA)⟩
theorem Chg.thenE {H:List Value} {a b c:World} (h:Chg H a b) (e:Ext b c):Chg H a c:=h.trans (e.mono (fun _ h=>by cases h))
theorem YO {H:List Value} {v:Value} {w0:World} (h:Chg H w0 w) (c:Chg [v] w w') (hf:∀ b,Qv v=some b->Jb H w0 b):Chg H w0 w':=Chg.freshH h c (fun x hx n e=>by simp_all)
theorem Stepp.swap2 {L:List Value} {v v':Value} {b:Nat} (h:Chg [v,.pointer (some ⟨b,0,none⟩)] w w') (hv:∀ k,Qv v'=some k->Qv v=some k\/w.heap.size<=k):Stepp (v::.pointer (some ⟨b,0,none⟩)::L) w (v'::.pointer (some ⟨b,0,none⟩)::L) w' :=
 .of (h.mono (fun y hy=>by
  grind)) fun y hy k e=>by
  grind [Qaw,List.mem_cons_of_mem,List.mem_cons_self]
theorem Qbj {v:Value} {b:Nat} {w0:World} (h:Ext w0 w) (c:Chg [v,.pointer (some ⟨b,0,none⟩)] w w') (hf:∀ k,Qv v=some k->w0.heap.size<=k) (hb:w0.heap.size<=b):Ext w0 w':=Chg.fresh h c (fun x hx n e=>by
 grind [Ei,Qv])
theorem Qle {v:Value} {hi k:Nat}:Qv (Yp v 0 hi k)=Qv v:=by
 cases v<;>try rfl
 rename_i a len cap;cases a with
 | none=>simp [Yp,Qv]
 | some a =>
  simp_all [Option.map_some,Qv,Addr.add,Yp,Nat.zero_mul]
theorem Own.cutf {α:Type} [Rep α] {e:TypeId} {L:List Value} {v:Value} {xs ys:List α} {hi:Int} (h:Own e L w v xs) (hc:cut xs 0 hi=some ys):Own e L w (Yp v 0 hi.toNat (Rep.n α)) ys:=by
  obtain ⟨h0,h1,h2,rfl⟩:=Qdx hc;obtain ⟨cells,⟨hl,ho⟩,hel⟩:=h;have hk:hi.toNat<=xs.length:=by omega
  have hlen:((xs.take hi.toNat).drop (0:Int).toNat).length=hi.toNat:=by simp;omega
  have ht:(xs.take hi.toNat).drop (0:Int).toNat=xs.take hi.toNat:=by simp
  have hle:hi.toNat * Rep.n α<=cells.length:=by simp_all [En]
  refine ⟨cells.take (hi.toNat * Rep.n α),⟨by simp_all,?_⟩,?_⟩
  · rcases ho with ⟨rfl,hz⟩ | ⟨g,cap,cur,rfl,hb,hh,h4,h5,h6,h7⟩
    · grind [Yp]
    · right;refine ⟨g,cap,cur,?_,hb,hh,by omega,h5,h6,?_⟩
      · simp_all [Option.map_some,X2,Yp,Nat.zero_mul,Nat.sub_zero]
      grind
  · rw [ht];refine ⟨by simp_all,fun i x hx=>?_⟩;have hi2:i < hi.toNat:=by
      grind
    rw [Ed hi2] at hx;have:=hel.2 i x hx;have hlt:i * Rep.n α+Rep.n α<=hi.toNat * Rep.n α:=by rw [<-Nat.succ_mul];exact En _ hi2
    grind [Nat.min_eq_left,List.drop_take]
theorem QJc {α:Type} [Rep α] {e e2:TypeId} {L:List Value} {w2:World} {v:Value} {xs ys:List α} {k':IntKind} {hi:Int} (hu:P.underlying T=some (.slice e)) (hz:Q6 P e (Rep.n α)) (hs:Own e2 L w2 v xs) (hc:cut xs 0 hi=some ys)
  (hx:Qm n ρ x=v) (hh:Qm n ρ z=.int k' hi):Yl P n ρ ⟨d,.slice T x none (some z) none,t,p,af,gu⟩ w (Yp v 0 hi.toNat (Rep.n α)) :=
 Qtc hu hz ((hs.sub (L':=[]) (fun _ h=>by cases h)).rd (fun b _=>Avoids.nil b)) hc hx hh
theorem Stepp.ren {L:List Value} {v v':Value} (h:Qv v'=Qv v):Stepp (v::L) w (v'::L) w:=Stepp.swap (Chg.refl _ _) (fun b hb=>.inl (by simp_all))
end
end Go.Gw

end
section
set_option linter.unusedSectionVars false
namespace Go.Gw
open Go
def Qfh (k:IntKind) (a b:Int):Option Int:=if 0<=b/\b<=k.bits then some (k.wrap (a * 2 ^ b.toNat)) else none
def J5 (k:IntKind) (a b:Int):Option Int:=if 0<=b/\b<=k.bits then some (a.fdiv (2 ^ b.toNat)) else none
def J3 (k:IntKind) (a b:Int):Int:=k.wrap (BitVec.ofInt k.bits a ||| BitVec.ofInt k.bits b).toNat
section
variable {P:Program} [JD P] {n:Nat} {ρ:Env} {w w':World}
variable {d:Option Nat} {t T U:TypeId} {p:String} {af:Array Edge} {gu:Option (Nat×Bool)} {x y z:Operand}
theorem Qth {k yk:IntKind} {a b c:Int} (h:Qfh k a b=some c) (hx:Qm n ρ x=.int k a) (hy:Qm n ρ y=.int yk b):Yl P n ρ ⟨d,.binOp .shl T x y U,t,p,af,gu⟩ w (.int k c):=by
 unfold Qfh at h;split at h
 ·rename_i hb;cases h;have h1:¬ b < 0:=by omega
  have h2:min b.toNat k.bits=b.toNat:=by omega
  exact Xn fun w es=>by simp [execOp,hx,hy,eqGuard,binOp,Op.shift,h1,h2]
 ·cases h
theorem Qgc {k yk:IntKind} {a b c:Int} (h:J5 k a b=some c) (hx:Qm n ρ x=.int k a) (hy:Qm n ρ y=.int yk b):Yl P n ρ ⟨d,.binOp .shr T x y U,t,p,af,gu⟩ w (.int k c):=by
 unfold J5 at h;split at h
 ·rename_i hb;cases h;have h1:¬ b < 0:=by omega
  have h2:min b.toNat k.bits=b.toNat:=by omega
  exact Xn fun w es=>by simp [execOp,hx,hy,eqGuard,binOp,Op.shift,h1,h2]
 ·cases h
theorem QJw {k:IntKind} {a b:Int} (hx:Qm n ρ x=.int k a) (hy:Qm n ρ y=.int k b):Yl P n ρ ⟨d,.binOp .or T x y U,t,p,af,gu⟩ w (.int k (J3 k a b)):=by
 simp_all [Xn,execOp,eqGuard,binOp,Op.intBits,J3]
end
theorem Qyd {w:World} {a:Addr} {xs:List Int} {i el:Int} {k:IntKind} (h:At w a (xs.map (Value.int k))) (hi:idx xs i=some el):At w (a.add (i.toNat * 1)) [.int k el] :=
 At.elem h (by rw [Eb,(YD hi).2.2];rfl)
end Go.Gw

end
section
set_option linter.unusedSectionVars false
namespace Go.Gw
open Go
section
variable {P:Program} [JD P] {n:Nat} {ρ:Env} {w w':World}
variable {d:Option Nat} {t T U:TypeId} {p:String} {af:Array Edge} {gu:Option (Nat×Bool)} {x y z:Operand}
end
end Go.Gw

end
section
set_option linter.unusedSectionVars false
namespace Go.Gw
open Go
def U8:Type:=Int
instance:Rep U8:=⟨1,fun _ _ cs d=>cs=[.int .u8 d],fun h=>by subst h;rfl,fun h=>by grind [Value.oneCell'],fun _ h=>h⟩
def bl (s:ByteArray):List U8:=s.data.toList.map fun b=>((b.toNat:Nat):Int)
theorem YZ (s:ByteArray):(bl s).length=s.size:=by
 show (List.map (fun b:UInt8=>((b.toNat:Nat):Int)) s.data.toList).length=s.size;simp
theorem Qgs (a b:ByteArray):(a.toList == b.toList)=decide (a=b):=by
 rw [ByteArray.toList_eq,ByteArray.toList_eq];by_cases h:a=b
 ·grind
 ·have:¬ a.data.toList=b.data.toList:=fun e=>h (by cases a;simp_all)
  simp_all
theorem Qgy (a b:ByteArray):a.toList=b.toList↔a=b:=by
 grind [decide_eq_false,beq_eq_false_iff_ne,absurd,Qgs]
def Y6 (a b:ByteArray):Option ByteArray:=if a.size+b.size<=1048576 then some (a++b) else none
def tob (s:ByteArray):Option (List U8):=if s.size<=1048576 then some (bl s) else none
section
variable {P:Program} [JD P] {n:Nat} {ρ:Env} {w:World}
variable {d:Option Nat} {t T U:TypeId} {p:String} {af:Array Edge} {gu:Option (Nat×Bool)} {x y z:Operand}
theorem Qcg {a b:ByteArray} (hx:Qm n ρ x=.string a) (hy:Qm n ρ y=.string b):Yl P n ρ ⟨d,.binOp .eql T x y U,t,p,af,gu⟩ w (.bool (decide (a=b))):=Xn fun w es=>by
 simp_all [execOp,eqGuard,binOp,Op.stringOp,Qgs]
theorem Qgb {a b:ByteArray} (hx:Qm n ρ x=.string a) (hy:Qm n ρ y=.string b):Yl P n ρ ⟨d,.binOp .neq T x y U,t,p,af,gu⟩ w (.bool (!decide (a=b))):=Xn fun w es=>by
 simp_all [execOp,eqGuard,binOp,Op.stringOp,bne,Qgs]
theorem ZY {a b c:ByteArray} (h:Y6 a b=some c) (hx:Qm n ρ x=.string a) (hy:Qm n ρ y=.string b):Yl P n ρ ⟨d,.binOp .add T x y U,t,p,af,gu⟩ w (.string c):=Xn fun w es=>by
 unfold Y6 at h;split at h
 ·rename_i hc;cases h;have:¬ ((a.size+b.size:Nat):Int) > IntKind.i64.max:=by simp [IntKind.max,IntKind.bits,IntKind.signed];omega
  simp_all [execOp,eqGuard,binOp,Op.stringOp,if_neg]
 ·cases h
theorem Qye {s:ByteArray} {i:Int} {el:U8} (h:idx (bl s) i=some el):(if 0<=i then s[i.toNat]? else none)=some (UInt8.ofNat (Int.toNat el))/\(((UInt8.ofNat (Int.toNat el)).toNat:Nat):Int)=el:=by
 obtain ⟨h0,h1,h2⟩:=YD h;rw [YZ] at h1;rw [if_pos h0,ByteArray.getElem?_lt' s _ h1];replace h2:((s.data.toList.map fun b=>((b.toNat:Nat):Int)):List Int)[i.toNat]?=some (el:Int):=h2;rw [Eb] at h2;obtain ⟨b,hb,hbe⟩:=Ea.1 h2;subst hbe;have e:s[i.toNat]=b:=by
  rw [Ec] at hb;obtain ⟨_,hb⟩:=hb;trivial
 simp_all
theorem Xm {k:IntKind} {s:ByteArray} {i:Int} {el:U8} (hu:P.underlying T=some .string) (hx:Qm n ρ x=.string s) (hy:Qm n ρ y=.int k i) (h:idx (bl s) i=some el):Yl P n ρ ⟨d,.index T x y,t,p,af,gu⟩ w (.int .u8 el):=by
 obtain ⟨h1,h2⟩:=Qye h;refine Yj (XC (Qji _ _ _)) fun w1 _=>?_;simp_all [execOp,Instr.index,asIntOf,pure_bind,Sem.run_bind,run_underlying,Result.andThen,Sem.run_pure]
def Zz (s:ByteArray) (cap:Nat):Array Value:=s.data.map (fun b=>Value.int .u8 b.toNat)++Array.replicate (cap - s.size) (.int .u8 0)
def Qdj (e:TypeId) (s:ByteArray):Sem Value:=do
 let cap <-choose (.appendCap s.size 0 e)
 let b <-newObj (.cells (Zz s cap) e ((Zz s cap).size,(Zz s cap).size+1))
 pure (.slice (some ⟨b,0,none⟩) s.size cap)
theorem Qrp (e:TypeId) (s:ByteArray) (w:World) (es:Array Event):(Conv.stringToBytes e s).runT P w es=(Qdj e s).runT P w es:=by
 unfold Conv.stringToBytes Qdj markStringish;rw [show (choose (.appendCap s.size 0 e) >>= _:Sem Value)=(choose (.appendCap s.size 0 e)).bind _ from rfl,Go.Sem.runT_bind'];rw [show (choose (.appendCap s.size 0 e) >>= _:Sem Value)=(choose (.appendCap s.size 0 e)).bind _ from rfl,Go.Sem.runT_bind'];generalize (choose (.appendCap s.size 0 e)).runT P w es=r;obtain ⟨r,es⟩:=r;cases r with
 | halt h w=>rfl
 | ok cap w =>
  simp only [newRow,newObj,shape,freeze,Bind.bind,Sem.bind,Pure.pure,Sem.runT,World.shape?,Array.getElem?_push_size];unfold World.freeze;simp only [Nat.one_ne_zero,if_false];congr 2;congr 1;apply Array.ext_getElem?;intro i;rw [Array.getElem?_modify,Array.getElem?_push,Array.getElem?_push];by_cases hi:w.heap.size=i
  ·grind [Zz]
  grind
theorem QHr (e:TypeId) (s:ByteArray):Tame P (Conv.stringToBytes e s) :=
 .same _ _ (Qrp e s) (.bnd (Qca _) fun cap=>.bnd (Qjm _ rfl) fun b=>.pure _)
theorem QHj {e:TypeId} {s:ByteArray} (hu:P.underlying T=some .string) (hU:P.underlying U=some (.slice e)) (he:P.underlying e=some (.int .u8)):Tame P (convert T U (.string s)):=by
 unfold convert;exact .und hu (.und hU (.und he (QHr _ _)))
theorem Qvz (s:ByteArray) (cap:Nat) (L:List Value):Elems L w (((Zz s cap).toList.drop 0).take (s.size * Rep.n U8)) (bl s):=by
 have e1:Rep.n U8=1:=rfl;have hl:(s.data.toList.map fun b=>Value.int .u8 b.toNat).length=s.size:=by simp
 have e2:((Zz s cap).toList.drop 0).take (s.size * Rep.n U8)=s.data.toList.map fun b=>Value.int .u8 b.toNat:=by
  simp_all [List.take_append_of_le_length,Nat.le_refl,List.take_of_length_le,Zz,Array.toList_append,Array.toList_map,Ef,List.drop_zero]
 rw [e2];refine ⟨by rw [hl,YZ,e1,Ef],fun i x hx=>?_⟩;rw [e1,Ef];replace hx:((s.data.toList.map fun b=>((b.toNat:Nat):Int)):List Int)[i]?=some (x:Int):=hx;rw [Eb] at hx;obtain ⟨b,hb,hbe⟩:=Ea.1 hx;subst hbe;show ((s.data.toList.map fun b=>Value.int .u8 b.toNat).drop i).take 1=[.int .u8 (b.toNat:Int)]
 grind [Ej,List.length_map,Ec]
theorem Qlw {e:TypeId} {s:ByteArray} {xs:List U8} {L:List Value} {K:Value->World->Prop} (hu:P.underlying T=some .string) (hU:P.underlying U=some (.slice e)) (he:P.underlying e=some (.int .u8)) (hx:Qm n ρ x=.string s) (hs:tob s=some xs) (hlt:LtL L w)
    (h:∀ v w',Ext w w'->SlRd L w' v xs->K v w'):Eff P ⟨d,.convert T U x,t,p,af,gu⟩ n ρ w K:=by
  unfold tob at hs;split at hs
  · rename_i hsz;cases hs;refine ZE (XC (by grind [QHj])) fun w1 e1=>?_;have hrun:(convert T U (.string s)).run P w1=(Qdj e s).run P w1:=by
      have h1:=Qrp (P:=P) e s w1 #[];simp_all [Sem.runT_fst,convert,Conv.stringToBytes,run_underlying]
    generalize hcap:Question.cut (.appendCap s.size 0 e) (w1.tape w1.drawn (.appendCap s.size 0 e))=cap;have hcb:s.size<=cap/\cap<=maxLen:=by
      rw [<-hcap];simp only [Question.cut];have:=Nat.mod_lt (w1.tape w1.drawn (.appendCap s.size 0 e)) (show 0 < 2 ^ 63 - s.size by omega)
      grind [maxLen]
    have hr2:(Qdj e s).run P w1=.ok (.slice (some ⟨w1.heap.size,0,none⟩) s.size cap) { w1 with drawn:=w1.drawn+1,heap:=w1.heap.push (.cells (Zz s cap) e ((Zz s cap).size,(Zz s cap).size+1)) }:=by
      simp [Qdj,choose,newObj,Sem.run,Question.forced,hcap,Bind.bind,Sem.bind,Pure.pure]
    simp only [execOp,hx,Sem.run_bind,hrun,hr2,Result.andThen,Sem.run_pure,effR];refine h _ _ (e1.trans ⟨rfl,rfl,rfl,by simp,fun b hb _=>by grind⟩) ?_;refine .inr ⟨w1.heap.size,0,cap,Zz s cap,e,((Zz s cap).size,(Zz s cap).size+1),by rw [YZ],by simp,fun x hx e=>?_,by grind [YZ],hcb.2,?_,?_⟩
    · have:=hlt x hx _ e;have:=e1.size;omega
    · simp_all [Zz,Rep.n,U8]
    grind [YZ,Qvz]
  · cases hs
end
end Go.Gw

end
section
set_option linter.unusedSectionVars false
namespace Go.Gw
open Go
section
variable {P:Program} [JD P] {n:Nat} {ρ:Env} {w:World}
variable {d:Option Nat} {t T U:TypeId} {p:String} {af:Array Edge} {gu:Option (Nat×Bool)} {x y z:Operand}

def Qds (v:Value):Prop:=∃ a k,v=.slice a k k

theorem QFb {α:Type} [Rep α] {e:TypeId} {bytes:Nat} {zz:Value} {L:List Value} {v vx:Value} {xs ys:List α}
    (hu:P.underlying T=some (.slice e)) (hi:EInfo P e (Rep.n α) bytes zz) (hr:SlRd L w v xs) (hf:Qds v) (hs:SlRd L w vx ys) (hne:0 < ys.length)
    (hb:(xs.length+ys.length) * bytes<=140737488355328) (hm:xs.length+ys.length<=maxLen) :
    ∃ v' w',(Builtin.append_ #[T,T] t #[v,vx]).run P w=.ok v' w'/\Ext w w'/\(∀ b,Qv v'=some b->w.heap.size<=b)/\Own e (v'::L) w' v' (xs++ys):=by
  obtain ⟨i,h1,h2,h3,h4,h5,h6⟩:=hi.ex;rcases hs with ⟨a0,rfl,rfl⟩ | ⟨b,off,cap,cur,e',fz,rfl,hblk,hA,hcap,hcm,hsz,hely⟩
  · simp at hne
  have hnl:(((cur.toList.drop off).take (ys.length * Rep.n α))).length=ys.length * Rep.n α:=hely.1;have hnews:∀ j u,((cur.toList.drop off).take (ys.length * Rep.n α))[j]?=some u->w.cell? ((⟨b,off,none⟩:Addr).add j)=some u:=fun j u hu=>by
    grind [World.cell?,Ed,Rep.n,Nat.lt_or_ge,Em,X2]
  -- what lies there
  obtain ⟨olds,hol,hoe⟩:∃ olds:List Value,olds.length=xs.length * Rep.n α/\Elems L w olds xs:=by
    rcases hr with ⟨a0,rfl,rfl⟩ | ⟨_,_,_,_,_,_,_,_,_,_,_,_,h7⟩
    · simp_all [Elems.nil]
    · exact ⟨_,h7.1,h7⟩
  have grown : ∀ (olds : List Value), olds.length = xs.length * Rep.n α -> Elems L w olds xs -> (Builtin.append_ #[T, T] t #[v, .slice (some ⟨b, off, none⟩) ys.length cap]).run P w = .ok (.slice (some ⟨w.heap.size, 0, none⟩) (xs.length + ys.length) (grownCap w (xs.length + ys.length) xs.length e)) (w.drew.alloc (.cells (olds.toArray ++ ((cur.toList.drop off).take (ys.length * Rep.n α)).toArray ++ Builtin.zeroCells zz.cells (grownCap w (xs.length + ys.length) xs.length e - (xs.length + ys.length))) e)) ->
      ∃ v' w',(Builtin.append_ #[T,T] t #[v,.slice (some ⟨b,off,none⟩) ys.length cap]).run P w=.ok v' w'/\Ext w w'/\(∀ b,Qv v'=some b->w.heap.size<=b)/\Own e (v'::L) w' v' (xs++ys):=fun olds hol hoe hr=>by
    have hge:=grownCap_ge w (xs.length+ys.length) xs.length e;have hcm:grownCap w (xs.length+ys.length) xs.length e<=maxLen:=grownCap_le_maxLen w _ _ e hm;have hE:Ext w (w.drew.alloc (.cells (olds.toArray++((cur.toList.drop off).take (ys.length * Rep.n α)).toArray++Builtin.zeroCells zz.cells (grownCap w (xs.length+ys.length) xs.length e - (xs.length+ys.length))) e)) :=
      ⟨rfl,rfl,rfl,by simp,fun k hk _=>heap_alloc_old w.drew _ hk⟩
    have hfr:∀ k,Qv (.slice (some ⟨w.heap.size,0,none⟩) (xs.length+ys.length) (grownCap w (xs.length+ys.length) xs.length e))=some k->w.heap.size<=k:=fun k hk=>by grind [Qv]
    have hlen:(olds++((cur.toList.drop off).take (ys.length * Rep.n α))).length=(xs.length+ys.length) * Rep.n α:=by grind
    refine ⟨_,_,hr,hE,hfr,olds++((cur.toList.drop off).take (ys.length * Rep.n α)),⟨by simp_all,.inr ⟨w.heap.size,_,_,by simp,Nat.zero_le _,heap_alloc_new w.drew _,by simp_all,hcm,?_,?_⟩⟩,?_⟩
    · simp only [Array.size_append,List.size_toArray,size_zeroCells,h5,hol,hnl,<-Nat.add_mul];simp_all
    · grind
    · exact (hoe.append hely).step (Stepp.add _ hE hfr)
  obtain ⟨a,k,hv⟩:=hf;rcases hr with ⟨a0,rfl,rfl⟩ | ⟨b2,off2,cap2,cur2,e2,fz2,rfl,hblk2,hA2,hcap2,hcm2,hsz2,hely2⟩
  · refine grown [] (by simp) Elems.nil ?_;cases a0 with
    | none =>
      have hr:=run_append_nil (P:=P) w T t e i zz hu h1 h4 ⟨b,off,none⟩ ys.length cap _ (by simp_all) hnews hne (by simp only [List.length_nil,Eg] at hm;grind [maxLen]) (by grind);simpa using hr
    | some a0 =>
      have hr:=run_append_grow (P:=P) w T t e i zz hu h1 h4 a0 0 0 [] (by simp) (fun j v hv=>by simp at hv) ⟨b,off,none⟩ ys.length cap _ (by simp_all) hnews (by omega) (by simp only [List.length_nil,Eg] at hm;grind [maxLen]) (growslice_fits (by omega) (by grind));omega
  · cases hv;have holds:∀ j u,((cur2.toList.drop off2).take (xs.length * Rep.n α))[j]?=some u->w.cell? ((⟨b2,off2,none⟩:Addr).add j)=some u:=fun j u hu=>by
      grind [World.cell?,Ed,Rep.n,Nat.lt_or_ge,Em,X2]
    refine grown _ hely2.1 hely2 ?_;exact run_append_grow (P:=P) w T t e i zz hu h1 h4 ⟨b2,off2,none⟩ xs.length xs.length _ (by grind) holds ⟨b,off,none⟩ ys.length cap _ (by simp_all) hnews (by omega) (by grind [maxLen]) (growslice_fits (by omega) (by simp_all))

theorem QFc {α:Type} [Rep α] {e:TypeId} {bytes:Nat} {zz:Value} {L:List Value} {v vx:Value}
  (hu:P.underlying T=some (.slice e)) (hi:EInfo P e (Rep.n α) bytes zz) (hf:Qds v) (hs:SlRd L w vx ([]:List α)):(Builtin.append_ #[T,T] t #[v,vx]).run P w=.ok v w:=by
 obtain ⟨i,h1,h2,h3,h4,h5,h6⟩:=hi.ex;obtain ⟨av,k,rfl⟩:=hf;obtain ⟨a0,c,rfl,_⟩:=hs.shape;have hl0:∀ a:Addr,(loadCells a 0).run P w=.ok #[] w:=fun a=>run_loadCells_list (P:=P) w a [] (fun j v hv=>by simp at hv)
 simp [Builtin.append_,run_underlying hu,sizeOf,typeInfo,h1,Builtin.lenOf,Builtin.firstCells];cases av<;>cases a0<;>simp [storeCells,hl0]
theorem Qvg {α:Type} [Rep α] {e:TypeId} {bytes:Nat} {zz:Value} {L:List Value} {v vx:Value} {xs ys zs:List α} {K:Value->World->Prop} {aT:Array TypeId}
  (hu:P.underlying T=some (.slice e)) (hi:EInfo P e (Rep.n α) bytes zz) (hbm:Ek bytes 65536=true) (hT:aT=#[T,T]) (hx:Qm n ρ x=v) (hy:Qm n ρ y=vx) (hown:Own e (v::L) w v xs) (hf:Qds v) (hs:SlRd (v::L) w vx ys)
  (hz:Xz xs ys=some zs)
  (h:∀ v' w',Ext w w'->(∀ b,Qv v'=some b->Qv v=some b\/w.heap.size<=b)->Own e (v'::L) w' v' zs->K v' w'):Eff P ⟨d,.call ⟨.builtin .append,#[x,y],aT⟩,t,p,af,gu⟩ n ρ w K:=by
 subst hT;obtain ⟨hb,rfl⟩:=Qgm hz;have hbm:bytes<=65536:=by simpa using hbm
 have:(xs.length+ys.length) * bytes<=1073741824 * 65536:=Nat.mul_le_mul hb hbm;have e0:execOp (Qm n ρ) ⟨d,.call ⟨.builtin .append,#[x,y],#[T,T]⟩,t,p,af,gu⟩=(Builtin.append_ #[T,T] t #[v,vx] >>= fun v=>Pure.pure (Next.value v)):=by
  simp [execOp,resolve,invoke,builtin,hx,hy]
 refine ZE (by grind [XC,Qrw]) fun w1 e1=>?_;rw [e0];have hown1:=hown.step (Stepp.ext e1) e1 (fun _ _=>Avoids.nil _);have hs1:=hs.step (Stepp.ext e1);rcases Nat.eq_zero_or_pos ys.length with hz | hz
 ·grind [Sem.run_bind,QFc,Result.andThen,Sem.run_pure,effR,List.eq_nil_of_length_eq_zero]
 ·obtain ⟨v',w',hr,hc,hbl,ho⟩:=Qqp (P:=P) (t:=t) hu hi hown1 hs1 (by omega) (by unfold maxLen;omega);obtain ⟨v2,w2,hr2,he2,_⟩:=QFb (P:=P) (t:=t) hu hi ((hown1.sub (L':=[]) (fun _ h=>by cases h)).rd (fun b _=>Avoids.nil b)) hf (hs1.sub (fun _ h=>by cases h)) hz (by omega) (by unfold maxLen;omega);rw [hr] at hr2;cases hr2;simp only [Sem.run_bind,hr,Result.andThen,Sem.run_pure,effR];exact h v' w' (e1.trans he2) (fun b hb=>(hbl b hb).imp id fun h=>Nat.le_trans e1.size h) ho
theorem Qvl {α:Type} [Rep α] {e:TypeId} {bytes:Nat} {z:Value} {L:List Value} {K:Value->World->Prop} (hu:P.underlying T=some (.slice e)) (hi:EInfo P e (Rep.n α) bytes z)
  (h:∀ v w',Ext w w'->(∀ b,Qv v=some b->w.heap.size<=b)->Own e (v::L) w' v ([]:List α)->Qds v->K v w'):Eff P ⟨d,.buildSlice T 0 #[],t,p,af,gu⟩ n ρ w K :=
 Qhd (xs:=[]) (cells:=[]) hu hi (by simp) (by simp [ZS,Qab]) Elems.nil rfl fun _ w' hb he _ ho=>h _ w' he (fun k hk=>by grind [Qv]) ho ⟨_,_,rfl⟩
/-! ### Whether an own slice is nil, told by its list -/
/-! ### Pointers that lie in arrays; loops of few rounds -/
theorem Xy {a:Addr} (hx:Qm n ρ x=.pointer (some a)):Yl P n ρ ⟨d,.nilCheck x,t,p,af,gu⟩ w (.pointer (some a)):=Xn fun w es=>by
 simp_all [execOp]
theorem ZB {m e:Nat} {k:IntKind} {i:Int} {cs:List Value} {v:Value} (hu:P.underlying T=some (.array m e)) (hs:Y5 P e) (hz:Q6 P e 1) (h0:0<=i) (h1:i < m) (hx:Qm n ρ x=.agg cs.toArray) (hy:Qm n ρ y=.int k i)
  (hv:cs[i.toNat]?=some v):Yl P n ρ ⟨d,.index T x y,t,p,af,gu⟩ w v:=by
 refine Yj (XC (Qji _ _ _)) fun w1 _=>?_;have hp:(part e cs.toArray (i.toNat * 1)).run P w1=.ok v w1:=Qiu hs (by simp_all);simp [execOp,hx,hy,Instr.index,asIntOf,run_underlying hu,h0,h1,YW hz] at hp ⊢;simp [hp]
theorem Zh {s q:TypeId} {i j:Int} {b:Bool} (hb:decide (i < j)=b) (hx:Qm n ρ x=.int .i64 i) (hy:Qm n ρ y=.int .i64 j):Yl P n ρ ⟨d,.binOp .lss s x y q,t,p,af,gu⟩ w (.bool b):=hb▸Xb hx hy
theorem YH {s q:TypeId} {i j r:Int} (hb:w64 (i+j)=r) (hx:Qm n ρ x=.int .i64 i) (hy:Qm n ρ y=.int .i64 j):Yl P n ρ ⟨d,.binOp .add s x y q,t,p,af,gu⟩ w (.int .i64 r):=hb▸QI hx hy
def unr (P:Program) [JD P] (n:Nat) (c:Code) (q:Post):Nat->Env->World->Prop
 | 0=>fun _ _=>False
 | k+1=>fun ρ w=>WC P n c ⟨unr P n c q k,q.ex,q.ret⟩ ρ w
theorem Zf {c:Code} {q:Post} (k:Nat) (h:WC P n c ⟨unr P n c q k,q.ex,q.ret⟩ ρ w):unr P n c q (k+1) ρ w:=h
theorem Qki {c:Code} {q:Post} (k:Nat) (h:unr P n c q k ρ w):WC P n (.loop c) q ρ w:=by
 have hi:∀ k,Yq (fun i:Nat=>match i with | 0=>some (.inr ()) | i+1=>some (.inl (β:=Unit) i)) (k+1) k=some ():=by
  intro k
  induction k with
  | zero=>rfl
  | succ k ih=>exact ih
 refine Qkg (fun s ρ w=>unr P n c q s ρ w) (hi k) h fun s ρ w hI=>?_;cases s with
 | zero=>exact hI.elim
 | succ s=>exact ⟨fun s' hs=>by cases hs;exact hI,fun hs=>nomatch hs⟩
theorem Xa {v:Value} {b off:Nat} {cs vs:List Value} {T':TypeId} {K:Value->World->Prop} {k:Nat} (hs:Q6 P T k) (hv:v.cells.toList=vs) (hk:vs.length=k) (hx:Qm n ρ x=.pointer (some ⟨b,off,none⟩)) (hy:Qm n ρ y=v)
  (hb:Box w b cs T') (hl:Ek (off+k) cs.length=true) (h1:∀ u∈vs,u.oneCell'=true) (hcs:X4 cs off vs=vs)
  (h:∀ w',Chg [.pointer (some ⟨b,0,none⟩)] w w'->Box w' b vs T'->K undef w'):Eff P ⟨d,.store T x y,t,p,af,gu⟩ n ρ w K:=Ys hs hv hk hx hy hb hl h1 hcs h
theorem QL (w:World):Ext w w:=Chg.refl _ _
end
end Go.Gw

end
section
set_option linter.unusedSectionVars false
namespace Go.Gw
open Go
section
variable {α:Type} [Rep α] {L L':List Value} {w w':World} {b:Nat} {d:α} {v:Value} {o:Option α}
def PtAt (L:List Value) (w:World) (b:Nat) (d:α):Prop:=∃ (cs:List Value) (T:TypeId) (fz:Nat×Nat),w.heap[b]?=some (.cells cs.toArray T fz)/\Avoids L b/\Rep.rd L w cs d
theorem PtAt.step (h:PtAt L w b d) (s:Stepp L w L' w'):PtAt L' w' b d:=by
 obtain ⟨cs,T,fz,h1,h2,h3⟩:=h;obtain ⟨⟨fz',h4⟩,h5⟩:=s.keeps h1 h2;exact ⟨cs,T,fz',h4,h5,Rep.step s h3⟩
def PtRd (L:List Value) (w:World) (v:Value):Option α->Prop
 | none=>v=.pointer none
 | some d=>∃ b,v=.pointer (some ⟨b,0,none⟩)/\PtAt L w b d
theorem PtRd.step (h:PtRd L w v o) (s:Stepp L w L' w'):PtRd L' w' v o:=by
 cases o with
 | none=>exact h
 | some d=>obtain ⟨b,h1,h2⟩:=h;exact ⟨b,h1,h2.step s⟩
theorem PtRd.one1 (h:PtRd L w v o):v.oneCell'=true:=by
 cases o with
 | none=>cases h;rfl
 | some d=>obtain ⟨b,rfl,_⟩:=h;rfl
theorem PtRd.of_box {cs:List Value} {T:TypeId} (h:Box w b cs T) (hA:Avoids L b) (hr:Rep.rd L w cs d):PtRd L w (.pointer (some ⟨b,0,none⟩)) (some d):=⟨b,rfl,cs,T,(0,0),h,hA,hr⟩
end
instance {α:Type} [Rep α]:Rep (Option α):=⟨1,fun L w cs o=>∃ v,PtRd L w v o/\cs=[v],fun ⟨v,_,h⟩=>by subst h;rfl,fun ⟨v,h1,h⟩ u hu=>by subst h;rw [Ei.1 hu];exact h1.one1,fun s ⟨v,h1,h⟩=>⟨v,h1.step s,h⟩⟩
section
variable {P:Program} [JD P] {n:Nat} {ρ:Env} {w:World} {d:Option Nat} {t T U:TypeId} {p:String} {af:Array Edge} {gu:Option (Nat×Bool)} {x y:Operand}
/-! ### A slice of zero structs -/
end
end Go.Gw

end
section
set_option linter.unusedSectionVars false
set_option linter.unusedVariables false
namespace Go.Gw
open Go
structure Opq where mk ::
 deriving DecidableEq,Inhabited
def OpqRd (L:List Value) (w:World) (v:Value) (o:Opq):Prop:=v.oneCell'=true
section
variable {L L':List Value} {w w':World} {v:Value} {o:Opq}
theorem OpqRd.step (h:OpqRd L w v o) (s:Stepp L w L' w'):OpqRd L' w' v o:=h
theorem OpqRd.ext (h:OpqRd L w v o) (e:Ext w w'):OpqRd L w' v o:=h
theorem OpqRd.one1 (h:OpqRd L w v o):v.oneCell'=true:=h
theorem OpqRd.of (h:v.oneCell'=true):OpqRd L w v o:=h
end
end Go.Gw

end
