/- Laws of the walk. Condition: each theorem says its own. -/
import Derived.Test.YtjladlhgnoiagaaGreatDoorGwCore
import Derived.Laws.OwnMore
import Derived.Laws.CopyRow
import Derived.Laws.ByValue
import Derived.WalkSpells
set_option linter.unusedVariables false
set_option linter.unusedSimpArgs false
set_option linter.unusedSectionVars false
open Option renaming map_eq_some_iff→Ea,bind_some→Ei,map_some→Ej
open Nat renaming mul_le_mul_right→Eb,mul_one→Ef,ble→Ek,zero_mul→En
open List renaming getElem?_take_of_lt→Ec,getElem?_eq_some_iff→Ed,replicate→Ee,getElem?_map→Eg,drop_eq_getElem_cons→Eh,getElem?_eq_none→El,replicate_succ→Em
section
set_option linter.unusedVariables false
namespace Go.Gw
open Go Go.Conc
section
variable {P:Program}
theorem Tame.bindP {α β:Type} {m:Sem α} {f:α->Sem β} (φ:α->Prop) (h:Tame P m) (hφ:∀ w es r w',(m.runT P w es).1=.ok r w'->φ r) (hf:∀ a,φ a->Tame P (f a)):Tame P (m >>= f):=by
  classical
  refine .same _ (m >>= fun a => if φ a then f a else Sem.halt (.stuck "")) (fun w es => ?_) (.bnd h fun a => ?_)
  · rw [show (m >>= f) = m.bind f from rfl, Go.Sem.runT_bind', show (m >>= fun a => if φ a then f a else Sem.halt (.stuck "")) = m.bind _ from rfl, Go.Sem.runT_bind']
    grind
  grind [halt]
def JV:Value->Bool
 | .bool _ | .int _ _ | .string _ | .float _ _=>true
 | _=>false
def NP (v:Value):Prop:=JV v=true\/∃ cs,v=.agg cs/\∀ c∈cs.toList,JV c=true
theorem NP.part {t:TypeId} {cs:Array Value} {off:Nat} (h:∀ c∈cs.toList,JV c=true):∀ w es r w',((part t cs off).runT P w es).1=.ok r w'->NP r:=by
 intro w es r w' hr;rw [Sem.runT_fst] at hr;unfold Go.part at hr;simp only [Sem.run_bind] at hr;cases h1:(isAgg t).run P w with
 | halt x w1=>simp_all
 | ok b w1 =>
  simp only [h1,Result.andThen] at hr;cases b with
  | true =>
   simp only [if_true,Sem.run_bind] at hr;cases h2:(sizeOf t).run P w1 with
   | halt x w2=>simp_all
   | ok k w2 =>
    simp only [h2,Result.andThen,Sem.run_pure] at hr;cases hr;refine .inr ⟨_,rfl,fun c hc=>h c ?_⟩
    grind [List.mem_of_mem_drop,List.mem_of_mem_take,Array.toList_extract,List.extract_eq_take_drop]
  | false =>
   simp only [Bool.false_eq_true,if_false] at hr;split at hr
   ·rename_i v hv;simp only [Sem.run_pure] at hr;cases hr;exact .inl (h _ (Array.mem_toList_iff.2 (Array.mem_of_getElem? hv)))
   trivial
theorem Qaz (t:TypeId) (cs:Array Value) (off:Nat):Tame P (part t cs off):=by
 unfold part;refine .bnd (Qsa _) fun b=>Z0 (.bnd (ZB _) fun _=>.pure _) ?_;split<;>first | exact .pure _ | exact Yh _
theorem QIg (t:TypeId) (x y:Value):Tame P (Instr.index t x y):=by
 unfold Instr.index;refine .bnd (Qgj _) fun _=>.bnd (Z1 _) fun _=>?_;split
 ·exact Z0 (.bnd (ZB _) fun _=>Qaz _ _ _) (Qgk _ _ _ _)
 ·split<;>first | exact .pure _ | exact Qgk _ _ _ _
 ·exact Yh _
theorem Qgo {α β:Type} (f:α->β->Sem (ForInStep β)) (hf:∀ a b,Tame P (f a b)):∀ (xs:List α) (b:β),Tame P (forIn xs b f)
 | [],b=>by rw [List.forIn_nil];exact .pure _
 | x::xs,b=>by
  rw [List.forIn_cons];refine .bnd (hf x b) fun r=>?_;split
  ·exact .pure _
  ·exact Qgo f hf xs _
theorem Qgm:∀ (d:Nat) (t:TypeId) (x y:Value),NP x->Tame P (Op.equalIn d t x y)
  | 0,_,_,_,_=>Jk _
  | d+1,t,x,y,hx=>by
    have ih:∀ (t t':TypeId) (cs ds:Array Value) (o o':Nat),(∀ c∈cs.toList,JV c=true)->Tame P (part t cs o >>= fun a=>part t' ds o' >>= fun b=>Op.equalIn d t a b):=fun t t' cs ds o o' hc =>
      .bindP NP (Qaz _ _ _) (NP.part hc) fun a ha=>.bnd (Qaz _ _ _) fun b=>Qgm d _ _ _ ha
    unfold Op.equalIn;refine .bnd (Z1 _) fun D=>?_;rcases hx with h | ⟨cs,rfl,hc⟩
    · split <;> first
        | exact .pure _
        | exact Yh _
        | exact Jk _
        | exact Z0 (.pure _) (Yh _)
        | trivial
    · split
      all_goals first
        | contradiction
        | exact Yh _
        | exact Jk _
        | skip
      · rename_i heq;obtain rfl:=Value.agg.inj heq;refine .bnd Qgr fun p=>?_
        have body : ∀ (ys : Array Value) (fs : Array Field), Tame P (forIn fs ((none : Option Bool), ()) fun f __s => (if f.name ≠ "_" then (part f.type cs f.offset >>= fun a => part f.type ys f.offset >>= fun b => Op.equalIn d f.type a b >>= fun r => if (!r) = true then (pure (ForInStep.done (some false, ())) : Sem _) else pure (ForInStep.yield (none, ()))) else pure (ForInStep.yield (none, ())))) := fun ys fs => by
          rw [<-Array.forIn_toList];refine Qgo _ (fun f b=>Z0 ?_ (.pure _)) _ _;refine .bindP NP (Qaz _ _ _) (NP.part hc) fun a ha=>.bnd (Qaz _ _ _) fun b=>.bnd (Qgm d _ _ _ ha) fun r=>Z0 (.pure _) (.pure _)
        refine Z0 (.bnd (Jk _) fun _=>?_) ?_
        all_goals
          refine .bnd (body _ _) fun r=>?_;dsimp only;split<;>exact .pure _
      · rename_i heq;obtain rfl:=Value.agg.inj heq;refine .bnd (ZB _) fun n=>.bnd ?_ fun r=>?_
        · rw [Std.Legacy.Range.forIn_eq_forIn_range'];refine Qgo _ (fun f b=>?_) _ _;exact .bindP NP (Qaz _ _ _) (NP.part hc) fun a ha=>.bnd (Qaz _ _ _) fun b=>.bnd (Qgm d _ _ _ ha) fun r=>Z0 (.pure _) (.pure _)
        · dsimp only;split<;>exact .pure _
end
end Go.Gw

end
section
set_option linter.unusedSectionVars false
namespace Go.Gw
open Go
section
variable {P:Program} [JD P] {n:Nat} {q:Post} {ρ:Env} {w:World}
variable {d:Option Nat} {t T U:TypeId} {p:String} {af:Array Edge} {gu:Option (Nat×Bool)} {x y z:Operand}

theorem Qg {α:Type} {a x:α} (h:some a=some x):a=x:=Option.some.inj h

theorem Q8 {c:Code} (M:Env->World->Prop) (h:∀ K:Env->World->Prop,(∀ ρ w,M ρ w->K ρ w)->WC P n c ⟨K,q.ex,q.ret⟩ ρ w) (h2:∀ ρ w,M ρ w->q.norm ρ w):WC P n c q ρ w :=
 (h M fun _ _ h=>h).mono h2 (fun _ _ _ h=>h) (fun _ _ h=>h)

omit [JD P] in
structure EqS (P:Program) (T:TypeId) (X Y:Array Value) (r:Bool):Prop where
 np:∀ c∈X.toList,JV c=true
 run:∀ w,(Op.equalIn (9999+1) T (.agg X) (.agg Y)).run P w=.ok r w
theorem Qqp {X Y:Value} {r:Bool} (h:(Op.equalIn (9999+1) T X Y).run P w=.ok r w):(Op.equal T X Y).run P w=.ok r w:=by
 trivial
theorem Qry {X Y:Array Value} {r:Bool} {f:Bool->Bool} (hg:P.eqGuardType P.depth T=false) (h:EqS P T X Y r):Tame P (Op.equal T (.agg X) (.agg Y)):=Qgm _ _ _ _ (.inr ⟨X,rfl,h.np⟩)
theorem Qrz {α:Type} {op:BinOp} {X Y:Array Value} {m:Sem α} (hg:P.eqGuardType P.depth T=false) (hm:Tame P m):Tame P (eqGuard op T x y (.agg X) (.agg Y) >>= fun _=>m):=by
 refine .same _ m (fun w es=>?_) hm;simp_all [eqGuard,XE]
theorem Qsu {X Y:Array Value} {r:Bool} (hg:P.eqGuardType P.depth T=false) (hx:Qo n ρ x=.agg X) (hy:Qo n ρ y=.agg Y) (h:EqS P T X Y r):Yl P n ρ ⟨d,.binOp .eql T x y U,t,p,af,gu⟩ w (.bool r) :=
 YU (Yn (by simp only [hx,hy];exact Qrz hg (.bnd (Qry (f:=id) hg h) fun _=>.pure _))) fun w1 _=>by simp [execOp,hx,hy,eqGuard,binOp,Qqp (h.run w1),hg,Result.andThen]
theorem Qkw {X Y:Array Value} {r:Bool} (hg:P.eqGuardType P.depth T=false) (hx:Qo n ρ x=.agg X) (hy:Qo n ρ y=.agg Y) (h:EqS P T X Y r):Yl P n ρ ⟨d,.binOp .neq T x y U,t,p,af,gu⟩ w (.bool (!r)) :=
 YU (Yn (by simp only [hx,hy];exact Qrz hg (.bnd (Qry (f:=id) hg h) fun _=>.pure _))) fun w1 _=>by simp [execOp,hx,hy,eqGuard,binOp,Qqp (h.run w1),hg,Result.andThen]

theorem Elems.cons {α:Type} [Rep α] {L:List Value} {cs rest:List Value} {x:α} {xs:List α} (h:Rep.rd L w cs x) (hs:Elems L w rest xs):Elems L w (cs++rest) (x::xs):=(Elems.one h).append hs

end
end Go.Gw
namespace Go.Gw
open Go
section
variable {P:Program} {T:TypeId}
theorem Ym {k:Nat} (h:(P.info? T).map (·.size)=some k):Xo P T k:=by
 cases hi:P.info? T with
 | none=>grind
 | some i=>simp [hi] at h;exact ⟨i,hi,h⟩
theorem Y9 {k:Nat} {dsc:TypeDesc} (hm:match dsc with | .struct _ | .array _ _=>True | _=>False) (hu:P.underlying T=some dsc) (h:(P.info? T).map (·.size)=some k):Aggr P T k:=by
 obtain ⟨i,hi,hk⟩:=Ym h;exact ⟨dsc,i,hu,hm,hi,hk⟩
theorem ZT {k bytes:Nat} {z:Value} (h:(P.info? T).bind (fun i=>i.zero.map fun z=>(i.size,i.bytes,z))=some (k,bytes,z)) (hz:z.cells.size=k) (hk:0 < k):EInfo P T k bytes z:=by
 cases hi:P.info? T with
 | none=>grind
 | some i =>
  simp only [hi,Ei,Ea,Prod.mk.injEq] at h;obtain ⟨z',h1,h2,h3,h4⟩:=h;exact ⟨⟨i,hi,h2,h3,by rw [h1,h4],hz,hk⟩⟩
theorem Y2 {places:List (Nat×Nat)} {zero:List Value} {fs:Array Field} (hu:P.underlying T=some (.struct fs)) (hz:(P.info? T).bind (fun i=>i.zero.map fun z=>z.cells)=some zero.toArray)
  (hp:fs.toList.mapM (fun f=>(P.info? f.type).map fun i=>(f.offset,i.size))=some places):BI P T places zero:=by
 cases hi:P.info? T with
 | none=>grind
 | some i =>
  simp only [hi,Ei,Ea] at hz;obtain ⟨z,h1,h2⟩:=hz;exact ⟨⟨i,fs,z,hi,hu,h1,h2,hp⟩⟩
theorem Y0 {cs:List Value} (hz:(P.info? T).bind (fun i=>i.zero.map fun z=>z.cells.toList)=some cs):ZI P T cs:=by
 cases hi:P.info? T with
 | none=>grind
 | some i =>
  simp only [hi,Ei,Ea] at hz;obtain ⟨z,h1,h2⟩:=hz;exact ⟨⟨i,z,hi,h1,h2⟩⟩
end
end Go.Gw
namespace Go.Gw
open Go
theorem QU {L:List Value} {w:World} {b:Nat} {cs:List Value} {T:TypeId} (h:LtL L w) (hB:Box w b cs T):LtL (.pointer (some ⟨b,0,none⟩)::L) w:=h.cons fun k hk=>by
 have e:b=k:=by grind [Qs]
 subst e;exact hB.lt
theorem Xr {α:Type} [Rep α] {e:TypeId} {L L':List Value} {w:World} {v:Value} {xs:List α} (h:LtL L w) (hO:Own e L' w v xs):LtL (v::L) w:=h.cons fun _ hk=>hO.blk_lt hk
end Go.Gw
namespace Go.Gw
open Go
theorem Z6 {v:Value} (h:v.oneCell'=true):v.cells.toList=[v]:=by
 cases v<;>first | rfl | cases h

def Qbl (place:Nat->Option (Nat×Nat)) (cells:List Value):List (Nat×List Value)->Option (List Value)
 | []=>some cells
 | (i,vs)::rest =>
  match place i with
  | none=>none
  | some (off,size)=>bif Nat.beq vs.length size&&Ek (off+vs.length) cells.length then Qbl place (Yb cells off vs) rest else none
theorem Qoe (place:Nat->Option (Nat×Nat)):∀ (pv:List (Nat×Value)) (cells:List Value),Ja place cells pv=Qbl place cells (pv.map fun q=>(q.1,q.2.cells.toList))
 | [],_=>rfl
 | (i,v)::rest,cells=>by
  simp only [Ja,Qbl,List.map_cons];cases place i with
  | none=>rfl
  | some p=>simp only [Qoe place rest]

section
variable {P:Program} [JD P] {n:Nat} {q:Post} {ρ:Env} {w:World}
variable {d:Option Nat} {t T U:TypeId} {p:String} {af:Array Edge} {gu:Option (Nat×Bool)} {x y z:Operand}
def PC (n:Nat) (ρ:Env) (parts:List (Nat×Operand)) (pc:List (Nat×List Value)):Prop:=parts.map (fun q=>(q.1,(Qo n ρ q.2).cells.toList))=pc
theorem QP:PC n ρ [] []:=rfl
theorem Qz {i:Nat} {v:Value} {cs:List Value} {ps:List (Nat×Operand)} {pc:List (Nat×List Value)} (h:Qo n ρ x=v) (hc:v.cells.toList=cs) (hs:PC n ρ ps pc):PC n ρ ((i,x)::ps) ((i,cs)::pc):=by
 grind [PC]
theorem PC.fill {parts:List (Nat×Operand)} {pc:List (Nat×List Value)} {place:Nat->Option (Nat×Nat)} {cells out:List Value} (h:PC n ρ parts pc) (hf:Qbl place cells pc=some out):Ja place cells (parts.map fun q=>(q.1,Qo n ρ q.2))=some out:=by
 rw [Qoe,List.map_map];unfold PC at h;rw [<-hf,<-h];rfl
theorem Xq {cells zero:List Value} {places:List (Nat×Nat)} {parts:List (Nat×Operand)} {pc:List (Nat×List Value)} (hB:BI P T places zero) (hp:PC n ρ parts pc) (h:Qbl (places[·]?) zero pc=some cells) :
  Yl P n ρ ⟨d,.build T parts.toArray,t,p,af,gu⟩ w (.agg cells.toArray):=QJt hB (hp.fill h)
theorem Xm {α:Type} [Rep α] {e:TypeId} {bytes:Nat} {z:Value} {L:List Value} {len:Nat} {xs:List α} {cells:List Value} {parts:List (Nat×Operand)} {pc:List (Nat×List Value)} {K:Value->World->Prop}
  (hu:P.underlying T=some (.slice e)) (hi:EInfo P e (Rep.n α) bytes z) (hsmall:Ek (len * Rep.n α) 16777216=true)
  (hp:PC n ρ parts pc) (hf:Qbl (fun i=>some (i * Rep.n α,Rep.n α)) (Qdv z.cells.toList (len * Rep.n α)) pc=some cells)
  (hel:Elems L w cells xs) (hl:xs.length=len) (hlt:LtL L w)
  (h:∀ b w',Ext w w'->SlRd L w' (.slice (some ⟨b,0,none⟩) len len) xs->K (.slice (some ⟨b,0,none⟩) len len) w'):Eff P ⟨d,.buildSlice T len parts.toArray,t,p,af,gu⟩ n ρ w K :=
 Qvs hu hi hsmall (hp.fill hf) hel hl hlt h
end
end Go.Gw
namespace Go.Gw
open Go
section
variable {P:Program} [JD P] {n:Nat} {ρ:Env} {w:World}
variable {d:Option Nat} {t T U:TypeId} {p:String} {af:Array Edge} {gu:Option (Nat×Bool)} {x y z:Operand}
theorem Qcp {f : FuncId} {fn : Func} {c : Code} {xs : Array Operand} {aT : Array TypeId} {args : List Value} {K Φ : Value → World → Prop} (hy : Qo n ρ y = .func (.func f) #[] #[]) (hf : P.funcs[f]? = some fn) (hname : (fn.name == "runtime.NumGoroutine") = false) (hb : fn.body = some c)
    (ha:(xs.map (Qo n ρ)).toList=args) (hc:CallsTo P f args w Φ) (h:∀ v w',Φ v w'->K v w'):Eff P ⟨d,.call ⟨.value y,xs,aT⟩,t,p,af,gu⟩ n ρ w K:=by
  have e:xs.map (Qo n ρ)=args.toArray:=by rw [<-ha]
  have this:∀ w es,(execOp (Qo n ρ) ⟨d,.call ⟨.value y,xs,aT⟩,t,p,af,gu⟩).runT P w es=(.ok (.enter f args.toArray) w,es):=fun w es=>by
    refine Eq.trans ?_ (Qjv (args:=args.toArray) hf hname hb);simp_all [execOp,resolve,Deferred.ofValue,invoke,pure_bind,Array.empty_append,Array.append_empty]
  refine ⟨(Tame.still _ this).fr,.inr fun w1 r=>?_⟩;rw [show (execOp (Qo n ρ) ⟨d,.call ⟨.value y,xs,aT⟩,t,p,af,gu⟩).run P w1=_ from by rw [<-Sem.runT_fst P _ w1 #[],this]];exact CallsJ.rely (CallsTo.mono hc h) r
theorem At.elem {a:Addr} {cs:List Value} {i:Nat} {u:Value} (h:At w a cs) (hi:cs[i]?=some u):At w (a.add (i * 1)) [u]:=by
 have h2:=(At.drop h i).take 1;rw [Ef]
 grind [take,Eh,Ed]
end
end Go.Gw
namespace Go.Gw
open Go
theorem QAa {xs:List Int} {i el:Int} (h:idx xs i=some el):i < xs.length:=by obtain ⟨h0,h1,_⟩:=ZK h;omega
end Go.Gw

end
section
set_option linter.unusedSectionVars false
namespace Go.Gw
open Go
section
variable {P:Program} [JD P] {n:Nat} {ρ:Env} {w:World}
variable {d:Option Nat} {t T U:TypeId} {p:String} {af:Array Edge} {gu:Option (Nat×Bool)} {x y z:Operand}

theorem QFs {cs:List Value} {off:Nat} {v:Value} (hT:YW P T) (h:cs[off]?=some v):(part T cs.toArray off).run P w=.ok v w:=by
 simp [part,Qqq hT,h]
theorem Qsw {fs:Array Field} {f:Field} {cs:List Value} {i:Nat} {v:Value} (hu:P.underlying T=some (.struct fs)) (hf:fs[i]?=some f) (hT:YW P f.type) (hx:Qo n ρ x=.agg cs.toArray)
  (h:cs[f.offset]?=some v):Yl P n ρ ⟨d,.field T x i,t,p,af,gu⟩ w v:=QJy hu hf hx (QFs hT h)
end
end Go.Gw

end
section
set_option linter.unusedSectionVars false
namespace Go.Gw
open Go
section
variable {P:Program} [JD P] {n:Nat} {q:Post} {ρ:Env} {w:World}

inductive Pl where
 | done
 | p (i:Nat) (r:Pl)
 | q (i:Nat) (r:Pl)
 | e (i:Nat) (r:Pl)
 | b (i:Nat) (r:Pl)
 | f (i:Nat) (r:Pl) (j:Nat) (s:Pl)
def TP (P:Program) [JD P] (n:Nat) (ops:List Oper) (S:World->Prop) (K:Env->World->Prop):Pl->Env->World->Prop
  | .done,ρ,w=>K ρ w
  | .p i r,ρ,w=>∃ o v,ops[i]?=some o/\Quiet P n ops.toArray (fun _=>True) o ρ v/\TP P n ops S K r (Xk ρ o.dst v) w
  | .q i r,ρ,w=>∃ o v,ops[i]?=some o/\Quiet P n ops.toArray S o ρ v/\TP P n ops S K r (Xk ρ o.dst v) w
  | .e i r,ρ,w=>∃ o,ops[i]?=some o/\Stp P n ops.toArray o ρ w (fun ρ' w'=>S w'/\TP P n ops S K r ρ' w')
  | .b i r,ρ,w=>∃ o,ops[i]?=some o/\Stp P n ops.toArray o ρ w (fun ρ' w'=>TP P n ops S K r ρ' w')
  | .f i r j s, ρ, w => (∃ o, ops[i]? = some o /\ Stp P n ops.toArray o ρ w (fun ρ' w' => S w' /\ TP P n ops S K r ρ' w')) /\
      (∃ o,ops[j]?=some o/\Stp P n ops.toArray o ρ w (fun ρ' w'=>S w'/\TP P n ops S K s ρ' w'))

theorem QIx {listed:Array Bool} {i x:Nat} (h:(listed.setIfInBounds i true).getD x true=false):listed.getD x true=false/\x≠i:=by
 by_cases hx:i=x
 ·simp_all
 ·rw [getD_set_ne true hx] at h;grind

section
variable {S:World->Prop} {K:Env->World->Prop} {ops:List Oper} {o:Oper} {i:Nat} {r:Pl} {v:Value}
end
end
end Go.Gw

end
section
set_option linter.unusedSectionVars false
namespace Go.Gw
open Go
section
variable {P:Program} [JD P] {n:Nat} {ρ:Env} {w:World}
variable {d:Option Nat} {t T U:TypeId} {p:String} {af:Array Edge} {gu:Option (Nat×Bool)} {x y z:Operand}

theorem Qex {α:Type} [Rep α] {e:TypeId} {L:List Value} {v:Value} {xs:List α} {i:Int} {el y':α} {off k:Nat} {u:Value} {vs:List Value} {K:Value->World->Prop} (hs:Xo P T k) (hc:u.cells.toList=vs) (hk:vs.length=k) (hown:Own e L w v xs) (hv:v∈L) (hel:idx xs i=some el)
  (hx:Qo n ρ x=.pointer (some ((XD v i.toNat (Rep.n α)).add off))) (hy:Qo n ρ y=u) (hl:Ek (off+k) (Rep.n α)=true) (h1:∀ c∈vs,c.oneCell'=true)
  (hset:∀ w' cs,Rep.rd L w' cs el->Rep.rd L w' (Yb cs off vs) y')
  (h:∀ w',Chg [v] w w'->Own e L w' v (xs.set i.toNat y')->K undef w'):Eff P ⟨d,.store T x y,t,p,af,gu⟩ n ρ w K:=by
 subst hc;subst hk;have e:u.cells.toList.length=u.cells.size:=by simp
 exact Qvv (by trivial) hown hv hel hx hy (by simp_all) h1 hset h

def mk {α:Type} (i:Int) (zero:α):Option (List α):=if 0<=i/\i<=1048576 then some (Ee i.toNat zero) else none
theorem QBs {α:Type} {i:Int} {zero:α} {xs:List α} (h:mk i zero=some xs):0<=i/\i<=1048576/\xs=Ee i.toNat zero:=by
 grind [mk]

theorem Elems.replicate {α:Type} [Rep α] {L:List Value} {c:Value} {zero:α} (h1:Rep.n α=1) (hz:Rep.rd L w [c] zero):∀ m:Nat,Elems L w (Ee m c) (Ee m zero)
 | 0=>Elems.nil
 | m+1=>by
  rw [Em,Em];exact Elems.cons (cs:=[c]) hz (Elems.replicate h1 hz m)

theorem QBi (c:Value) (m:Nat):(madeCells #[c] m).toList=Ee m c:=by
 apply List.ext_getElem
 ·simp [madeCells]
 simp_all [madeCells,Nat.mod_one]

theorem Qew {α:Type} [Rep α] {e:TypeId} {bytes:Nat} {c:Value} {L:List Value} {i:Int} {zero:α} {xs:List α} {k k':IntKind} {K:Value->World->Prop} (h1:Rep.n α=1) (hu:P.underlying T=some (.slice e)) (hi:EInfo P e 1 bytes c) (hcc:c.cells=#[c])
    (hbm:Ek bytes 65536=true) (hz:∀ L w,Rep.rd L w [c] zero) (hx:Qo n ρ x=.int k i) (hy:Qo n ρ y=.int k' i) (hm:mk i zero=some xs)
    (h:∀ v w',Ext w w'->(∀ b,Qs v=some b->w.heap.size<=b)->Own e (v::L) w' v xs->K v w'):Eff P ⟨d,.makeSlice T x y,t,p,af,gu⟩ n ρ w K:=by
  obtain ⟨h0,hmax,rfl⟩:=QBs hm;obtain ⟨ti,g1,g2,g3,g4,_,_⟩:=hi.ex;have hbm:bytes<=65536:=by simpa using hbm
  obtain ⟨m,rfl⟩:∃ m:Nat,i=(m:Int):=⟨i.toNat,by omega⟩;have hmm:m<=1048576:=by omega
  have hb:ti.bytes * m<=281474976710656:=by
    rw [g3]
    calc bytes * m<=65536 * 1048576:=Nat.mul_le_mul hbm hmm
      _<=_:=by decide
  refine Z8 (Yn (QIi _ _ _)) fun w1 e1=>?_;obtain ⟨w',hr,ho,hg⟩:=run_makeSlice_full (P:=P) (w:=w1) 0 T e ti c 1 hu g1 g4 g2 k k' m (by omega) hb (by unfold maxLen;omega) (Nat.zero_le _);have he:Ext w1 w':=⟨hg.os,hg.tape,hg.output,hg.size,fun b hb _=>hg.block b hb (fun e=>by cases e)⟩;simp only [execOp,hx,hy,Sem.run_bind,hr,Result.andThen,Sem.run_pure,effR];refine h _ w' (e1.trans he) (fun b hb=>by have:=e1.size;grind [Qs]) ⟨(madeCells c.cells (m * 1)).toList,?_,?_⟩
  · simp_all
  simp_all [Ef,QBi,Int.toNat_natCast,Elems.replicate]
end
end Go.Gw

end
section
set_option linter.unusedSectionVars false
namespace Go.Gw
open Go
section
variable {P:Program} [JD P] {n:Nat} {ρ:Env} {w:World}
variable {d:Option Nat} {t T U:TypeId} {p:String} {af:Array Edge} {gu:Option (Nat×Bool)} {x y z:Operand}

theorem QIe {aT:Array TypeId} {vx vy:Value} (hx:Qo n ρ x=vx) (hy:Qo n ρ y=vy):Tame P (execOp (Qo n ρ) ⟨d,.call ⟨.builtin .copy,#[x,y],aT⟩,t,p,af,gu⟩):=by
 have e0:execOp (Qo n ρ) ⟨d,.call ⟨.builtin .copy,#[x,y],aT⟩,t,p,af,gu⟩=(Builtin.copy_ aT t #[vx,vy] >>= fun v=>Pure.pure (Next.value v)):=by
  simp [execOp,resolve,invoke,builtin,hx,hy]
 grind [Yn,QId]
theorem Qlp {L:List Value} {b:Nat} (hL:LtL L w) (hb:w.heap.size<=b):Avoids L b:=fun x hx e=>by have:=hL x hx b e;omega
end
end Go.Gw
namespace Go.Gw
end Go.Gw

end
section
set_option linter.unusedSectionVars false
namespace Go.Gw
open Go
section
variable {P:Program} [JD P] {n:Nat} {ρ:Env} {w:World}
theorem Qdx {ops:Array Oper} {K:Env->World->Prop} {o:Oper} {os:List Oper} (Φ:Value->World->Prop) (b:Bool) (hw:XP ops o n ρ=b) (ht:b=true->Eff P o n ρ w (fun v w'=>Ext w w'/\Φ v w'))
    (h:∀ v w',Ext w w'->(b=true->Φ v w')->T0 P n ops K os (Xk ρ o.dst (gd b v)) w'):T0 P n ops K (o::os) ρ w :=
  Qle b hw (fun hb=>(ht hb).mono fun v w' ⟨he,hv⟩=>by grind [Qi])
    (fun hb=>by simp_all [Qbn,undef,Chg.refl])
end
end Go.Gw

end
section
set_option linter.unusedSectionVars false
namespace Go.Gw
open Go
section
variable {P:Program} [JD P] {n:Nat} {q:Post} {ρ:Env} {w:World}
end
end Go.Gw

end
section
set_option linter.unusedSectionVars false
namespace Go.Gw
open Go
section
variable {P:Program} [JD P] {n:Nat} {ρ:Env} {w w':World}
variable {d:Option Nat} {t T U:TypeId} {p:String} {af:Array Edge} {gu:Option (Nat×Bool)} {x y z:Operand}
theorem Qha {f:FuncId} {cap:Array Operand} {cs:List Value} (h:(cap.map (Qo n ρ)).toList=cs):Yl P n ρ ⟨d,.makeFunc (.func f) #[] cap,t,p,af,gu⟩ w (.func (.func f) #[] cs.toArray):=by
 have e:cap.map (Qo n ρ)=cs.toArray:=by rw [<-h]
 simp_all [XH,execOp,Instr.makeFunc]
theorem Qev {f : FuncId} {fn : Func} {c : Code} {xs : Array Operand} {aT : Array TypeId} {cs us args : List Value} {K Φ : Value → World → Prop} (hy : Qo n ρ y = .func (.func f) #[] cs.toArray) (hf : P.funcs[f]? = some fn) (hname : (fn.name == "runtime.NumGoroutine") = false) (hb : fn.body = some c)
    (ha:(xs.map (Qo n ρ)).toList=us) (hargs:us++cs=args) (hc:CallsTo P f args w Φ) (h:∀ v w',Φ v w'->K v w'):Eff P ⟨d,.call ⟨.value y,xs,aT⟩,t,p,af,gu⟩ n ρ w K:=by
  have e:xs.map (Qo n ρ)=us.toArray:=by rw [<-ha]
  have this:∀ w es,(execOp (Qo n ρ) ⟨d,.call ⟨.value y,xs,aT⟩,t,p,af,gu⟩).runT P w es=(.ok (.enter f args.toArray) w,es):=fun w es=>by
    subst hargs;refine Eq.trans ?_ (Qjv (args:=(us++cs).toArray) hf hname hb);simp_all [execOp,resolve,Deferred.ofValue,invoke,pure_bind,List.append_toArray,List.nil_append]
  refine ⟨(Tame.still _ this).fr,.inr fun w1 r=>?_⟩;rw [show (execOp (Qo n ρ) ⟨d,.call ⟨.value y,xs,aT⟩,t,p,af,gu⟩).run P w1=_ from by rw [<-Sem.runT_fst P _ w1 #[],this]];exact CallsJ.rely (CallsTo.mono hc h) r
def Qbg (H:List Value) (w:World) (b:Nat):Prop:=w.heap.size<=b\/¬ Avoids H b
theorem Chg.freshH {H0 H:List Value} {a b c:World} (h:Chg H0 a b) (k:Chg H b c) (hf:∀ x∈H,∀ n,Qs x=some n->Qbg H0 a n):Chg H0 a c :=
 ⟨k.os.trans h.os,k.tape.trans h.tape,k.output.trans h.output,Nat.le_trans h.size k.size,fun i hi hA=>(k.block i (Nat.lt_of_lt_of_le hi h.size) (fun x hx e=>by
  rcases hf x hx i e with h1 | h1
  ·omega
  grind)).trans (h.block i hi hA)⟩
theorem Chg.thenE {H:List Value} {a b c:World} (h:Chg H a b) (e:Ext b c):Chg H a c:=h.trans (e.mono (fun _ h=>by cases h))
theorem Y3 {H:List Value} {v:Value} {w0:World} (h:Chg H w0 w) (c:Chg [v] w w') (hf:∀ b,Qs v=some b->Qbg H w0 b):Chg H w0 w':=Chg.freshH h c (fun x hx n e=>by simp_all)
theorem Qme {v:Value} {hi k:Nat}:Qs (Za v 0 hi k)=Qs v:=by
 cases v<;>try rfl
 rename_i a len cap;cases a with
 | none=>simp [Za,Qs]
 | some a =>
  simp_all [Ej,Qs,Addr.add,Za,En]
theorem Own.cutf {α:Type} [Rep α] {e:TypeId} {L:List Value} {v:Value} {xs ys:List α} {hi:Int} (h:Own e L w v xs) (hc:cut xs 0 hi=some ys):Own e L w (Za v 0 hi.toNat (Rep.n α)) ys:=by
  obtain ⟨h0,h1,h2,rfl⟩:=Qet hc;obtain ⟨cells,⟨hl,ho⟩,hel⟩:=h;have hk:hi.toNat<=xs.length:=by omega
  have hlen:((xs.take hi.toNat).drop (0:Int).toNat).length=hi.toNat:=by simp;omega
  have ht:(xs.take hi.toNat).drop (0:Int).toNat=xs.take hi.toNat:=by simp
  have hle:hi.toNat * Rep.n α<=cells.length:=by simp_all [Eb]
  refine ⟨cells.take (hi.toNat * Rep.n α),⟨by simp_all,?_⟩,?_⟩
  · rcases ho with ⟨rfl,hz⟩ | ⟨g,cap,cur,rfl,hb,hh,h4,h5,h6,h7⟩
    · grind [Za]
    · right;refine ⟨g,cap,cur,?_,hb,hh,by omega,h5,h6,?_⟩
      · simp_all [Ej,Yy,Za,En,Nat.sub_zero]
      grind
  · rw [ht];refine ⟨by simp_all,fun i x hx=>?_⟩;have hi2:i < hi.toNat:=by
      grind
    rw [Ec hi2] at hx;have:=hel.2 i x hx;have hlt:i * Rep.n α+Rep.n α<=hi.toNat * Rep.n α:=by rw [<-Nat.succ_mul];exact Eb _ hi2
    grind [Nat.min_eq_left,List.drop_take]
theorem QJx {α:Type} [Rep α] {e e2:TypeId} {L:List Value} {w2:World} {v:Value} {xs ys:List α} {k':IntKind} {hi:Int} (hu:P.underlying T=some (.slice e)) (hz:Xo P e (Rep.n α)) (hs:Own e2 L w2 v xs) (hc:cut xs 0 hi=some ys)
  (hx:Qo n ρ x=v) (hh:Qo n ρ z=.int k' hi):Yl P n ρ ⟨d,.slice T x none (some z) none,t,p,af,gu⟩ w (Za v 0 hi.toNat (Rep.n α)) :=
 QJw hu hz ((hs.sub (L':=[]) (fun _ h=>by cases h)).rd (fun b _=>Avoids.nil b)) hc hx hh
theorem Stepp.ren {L:List Value} {v v':Value} (h:Qs v'=Qs v):Stepp (v::L) w (v'::L) w:=Stepp.swap (Chg.refl _ _) (fun b hb=>.inl (by simp_all))
end
end Go.Gw

end
section
set_option linter.unusedSectionVars false
namespace Go.Gw
open Go
def Qde (k:IntKind) (a b:Int):Option Int:=if 0<=b/\b<=k.bits then some (k.wrap (a * 2 ^ b.toNat)) else none
def JA (k:IntKind) (a b:Int):Option Int:=if 0<=b/\b<=k.bits then some (a.fdiv (2 ^ b.toNat)) else none
def Qee (k:IntKind) (a b:Int):Int:=k.wrap (BitVec.ofInt k.bits a &&& BitVec.ofInt k.bits b).toNat
def JY (k:IntKind) (a b:Int):Int:=k.wrap (BitVec.ofInt k.bits a ||| BitVec.ofInt k.bits b).toNat
section
variable {P:Program} [JD P] {n:Nat} {ρ:Env} {w w':World}
variable {d:Option Nat} {t T U:TypeId} {p:String} {af:Array Edge} {gu:Option (Nat×Bool)} {x y z:Operand}
theorem Qky {k yk:IntKind} {a b c:Int} (h:Qde k a b=some c) (hx:Qo n ρ x=.int k a) (hy:Qo n ρ y=.int yk b):Yl P n ρ ⟨d,.binOp .shl T x y U,t,p,af,gu⟩ w (.int k c):=by
 unfold Qde at h;split at h
 ·rename_i hb;cases h;have h1:¬ b < 0:=by omega
  have h2:min b.toNat k.bits=b.toNat:=by omega
  exact XH fun w es=>by simp [execOp,hx,hy,eqGuard,binOp,Op.shift,h1,h2]
 ·cases h
theorem Qdu {k yk:IntKind} {a b c:Int} (h:JA k a b=some c) (hx:Qo n ρ x=.int k a) (hy:Qo n ρ y=.int yk b):Yl P n ρ ⟨d,.binOp .shr T x y U,t,p,af,gu⟩ w (.int k c):=by
 unfold JA at h;split at h
 ·rename_i hb;cases h;have h1:¬ b < 0:=by omega
  have h2:min b.toNat k.bits=b.toNat:=by omega
  exact XH fun w es=>by simp [execOp,hx,hy,eqGuard,binOp,Op.shift,h1,h2]
 ·cases h
theorem QJs {k:IntKind} {a b:Int} (hx:Qo n ρ x=.int k a) (hy:Qo n ρ y=.int k b):Yl P n ρ ⟨d,.binOp .and T x y U,t,p,af,gu⟩ w (.int k (Qee k a b)):=by
 simp_all [XH,execOp,eqGuard,binOp,Op.intBits,Qee]
theorem QKe {k:IntKind} {a b:Int} (hx:Qo n ρ x=.int k a) (hy:Qo n ρ y=.int k b):Yl P n ρ ⟨d,.binOp .or T x y U,t,p,af,gu⟩ w (.int k (JY k a b)):=by
 simp_all [XH,execOp,eqGuard,binOp,Op.intBits,JY]
end
theorem Qzz {w:World} {a:Addr} {xs:List Int} {i el:Int} {k:IntKind} (h:At w a (xs.map (Value.int k))) (hi:idx xs i=some el):At w (a.add (i.toNat * 1)) [.int k el] :=
 At.elem h (by rw [Eg,(ZK hi).2.2];rfl)
end Go.Gw

end
section
set_option linter.unusedSectionVars false
namespace Go.Gw
open Go
section
variable {P:Program} [JD P] {n:Nat} {ρ:Env} {w w':World}
variable {d:Option Nat} {t T U:TypeId} {p:String} {af:Array Edge} {gu:Option (Nat×Bool)} {x y z:Operand}
end
end Go.Gw

end
section
set_option linter.unusedSectionVars false
namespace Go.Gw
open Go
def U8:Type:=Int
instance:Rep U8:=⟨1,fun _ _ cs d=>cs=[.int .u8 d],fun h=>by subst h;rfl,fun h=>by grind [Value.oneCell'],fun _ h=>h⟩
def bl (s:ByteArray):List U8:=s.data.toList.map fun b=>((b.toNat:Nat):Int)
theorem Zr (s:ByteArray):(bl s).length=s.size:=by
 show (List.map (fun b:UInt8=>((b.toNat:Nat):Int)) s.data.toList).length=s.size;simp
theorem Qho (a b:ByteArray):(a.toList == b.toList)=decide (a=b):=by
 rw [ByteArray.toList_eq,ByteArray.toList_eq];by_cases h:a=b
 ·grind
 ·have:¬ a.data.toList=b.data.toList:=fun e=>h (by cases a;simp_all)
  simp_all
theorem Qhr (a b:ByteArray):a.toList=b.toList↔a=b:=by
 grind [decide_eq_false,beq_eq_false_iff_ne,absurd,Qho]
def ZF (a b:ByteArray):Option ByteArray:=if a.size+b.size<=1048576 then some (a++b) else none
def JC (s:ByteArray):Option (List U8):=if s.size<=1048576 then some (bl s) else none
section
variable {P:Program} [JD P] {n:Nat} {ρ:Env} {w:World}
variable {d:Option Nat} {t T U:TypeId} {p:String} {af:Array Edge} {gu:Option (Nat×Bool)} {x y z:Operand}
theorem Jn {a b:ByteArray} (hx:Qo n ρ x=.string a) (hy:Qo n ρ y=.string b):Yl P n ρ ⟨d,.binOp .eql T x y U,t,p,af,gu⟩ w (.bool (decide (a=b))):=XH fun w es=>by
 simp_all [execOp,eqGuard,binOp,Op.stringOp,Qho]
theorem Qkx {a b:ByteArray} (hx:Qo n ρ x=.string a) (hy:Qo n ρ y=.string b):Yl P n ρ ⟨d,.binOp .neq T x y U,t,p,af,gu⟩ w (.bool (!decide (a=b))):=XH fun w es=>by
 simp_all [execOp,eqGuard,binOp,Op.stringOp,bne,Qho]
theorem Qcc {a b c:ByteArray} (h:ZF a b=some c) (hx:Qo n ρ x=.string a) (hy:Qo n ρ y=.string b):Yl P n ρ ⟨d,.binOp .add T x y U,t,p,af,gu⟩ w (.string c):=XH fun w es=>by
 unfold ZF at h;split at h
 ·rename_i hc;cases h;have:¬ ((a.size+b.size:Nat):Int) > IntKind.i64.max:=by simp [IntKind.max,IntKind.bits,IntKind.signed];omega
  simp_all [execOp,eqGuard,binOp,Op.stringOp,if_neg]
 ·cases h
theorem QAd {s:ByteArray} {i:Int} {el:U8} (h:idx (bl s) i=some el):(if 0<=i then s[i.toNat]? else none)=some (UInt8.ofNat (Int.toNat el))/\(((UInt8.ofNat (Int.toNat el)).toNat:Nat):Int)=el:=by
 obtain ⟨h0,h1,h2⟩:=ZK h;rw [Zr] at h1;rw [if_pos h0,ByteArray.getElem?_lt' s _ h1];replace h2:((s.data.toList.map fun b=>((b.toNat:Nat):Int)):List Int)[i.toNat]?=some (el:Int):=h2;rw [Eg] at h2;obtain ⟨b,hb,hbe⟩:=Ea.1 h2;subst hbe;have e:s[i.toNat]=b:=by
  rw [Ed] at hb;obtain ⟨_,hb⟩:=hb;trivial
 simp_all
theorem Xz {k:IntKind} {s:ByteArray} {i:Int} {el:U8} (hu:P.underlying T=some .string) (hx:Qo n ρ x=.string s) (hy:Qo n ρ y=.int k i) (h:idx (bl s) i=some el):Yl P n ρ ⟨d,.index T x y,t,p,af,gu⟩ w (.int .u8 el):=by
 obtain ⟨h1,h2⟩:=QAd h;refine YU (Yn (QIg _ _ _)) fun w1 _=>?_;simp_all [execOp,Instr.index,asIntOf,pure_bind,Sem.run_bind,run_underlying,Result.andThen,Sem.run_pure]
def Zn (s:ByteArray) (cap:Nat):Array Value:=s.data.map (fun b=>Value.int .u8 b.toNat)++Array.replicate (cap - s.size) (.int .u8 0)
def Qdg (e:TypeId) (s:ByteArray):Sem Value:=do
 let cap <-choose (.appendCap s.size 0 e)
 let b <-newObj (.cells (Zn s cap) e ((Zn s cap).size,(Zn s cap).size+1))
 pure (.slice (some ⟨b,0,none⟩) s.size cap)
theorem Qrr (e:TypeId) (s:ByteArray) (w:World) (es:Array Event):(Conv.stringToBytes e s).runT P w es=(Qdg e s).runT P w es:=by
 unfold Conv.stringToBytes Qdg markStringish;rw [show (choose (.appendCap s.size 0 e) >>= _:Sem Value)=(choose (.appendCap s.size 0 e)).bind _ from rfl,Go.Sem.runT_bind'];rw [show (choose (.appendCap s.size 0 e) >>= _:Sem Value)=(choose (.appendCap s.size 0 e)).bind _ from rfl,Go.Sem.runT_bind'];generalize (choose (.appendCap s.size 0 e)).runT P w es=r;obtain ⟨r,es⟩:=r;cases r with
 | halt h w=>rfl
 | ok cap w =>
  simp only [newRow,newObj,shape,freeze,Bind.bind,Sem.bind,Pure.pure,Sem.runT,World.shape?,Array.getElem?_push_size];unfold World.freeze;simp only [Nat.one_ne_zero,if_false];congr 2;congr 1;apply Array.ext_getElem?;intro i;rw [Array.getElem?_modify,Array.getElem?_push,Array.getElem?_push];by_cases hi:w.heap.size=i
  ·grind [Zn]
  grind
theorem QIm (e:TypeId) (s:ByteArray):Tame P (Conv.stringToBytes e s) :=
 .same _ _ (Qrr e s) (.bnd (Qgl _) fun cap=>.bnd (Qsg _ rfl) fun b=>.pure _)
theorem QIc {e:TypeId} {s:ByteArray} (hu:P.underlying T=some .string) (hU:P.underlying U=some (.slice e)) (he:P.underlying e=some (.int .u8)):Tame P (convert T U (.string s)):=by
 unfold convert;exact .und hu (.und hU (.und he (QIm _ _)))
theorem Qwd (s:ByteArray) (cap:Nat) (L:List Value):Elems L w (((Zn s cap).toList.drop 0).take (s.size * Rep.n U8)) (bl s):=by
 have e1:Rep.n U8=1:=rfl;have hl:(s.data.toList.map fun b=>Value.int .u8 b.toNat).length=s.size:=by simp
 have e2:((Zn s cap).toList.drop 0).take (s.size * Rep.n U8)=s.data.toList.map fun b=>Value.int .u8 b.toNat:=by
  simp_all [List.take_append_of_le_length,Nat.le_refl,List.take_of_length_le,Zn,Array.toList_append,Array.toList_map,Ef,List.drop_zero]
 rw [e2];refine ⟨by rw [hl,Zr,e1,Ef],fun i x hx=>?_⟩;rw [e1,Ef];replace hx:((s.data.toList.map fun b=>((b.toNat:Nat):Int)):List Int)[i]?=some (x:Int):=hx;rw [Eg] at hx;obtain ⟨b,hb,hbe⟩:=Ea.1 hx;subst hbe;show ((s.data.toList.map fun b=>Value.int .u8 b.toNat).drop i).take 1=[.int .u8 (b.toNat:Int)]
 grind [Eh,List.length_map,Ed]
theorem Qhy {e:TypeId} {s:ByteArray} {xs:List U8} {L:List Value} {K:Value->World->Prop} (hu:P.underlying T=some .string) (hU:P.underlying U=some (.slice e)) (he:P.underlying e=some (.int .u8)) (hx:Qo n ρ x=.string s) (hs:JC s=some xs) (hlt:LtL L w)
    (h:∀ v w',Ext w w'->SlRd L w' v xs->K v w'):Eff P ⟨d,.convert T U x,t,p,af,gu⟩ n ρ w K:=by
  unfold JC at hs;split at hs
  · rename_i hsz;cases hs;refine Z8 (Yn (by grind [QIc])) fun w1 e1=>?_;have hrun:(convert T U (.string s)).run P w1=(Qdg e s).run P w1:=by
      have h1:=Qrr (P:=P) e s w1 #[];simp_all [Sem.runT_fst,convert,Conv.stringToBytes,run_underlying]
    generalize hcap:Question.cut (.appendCap s.size 0 e) (w1.tape w1.drawn (.appendCap s.size 0 e))=cap;have hcb:s.size<=cap/\cap<=maxLen:=by
      rw [<-hcap];simp only [Question.cut];have:=Nat.mod_lt (w1.tape w1.drawn (.appendCap s.size 0 e)) (show 0 < 2 ^ 63 - s.size by omega)
      grind [maxLen]
    have hr2:(Qdg e s).run P w1=.ok (.slice (some ⟨w1.heap.size,0,none⟩) s.size cap) { w1 with drawn:=w1.drawn+1,heap:=w1.heap.push (.cells (Zn s cap) e ((Zn s cap).size,(Zn s cap).size+1)) }:=by
      simp [Qdg,choose,newObj,Sem.run,Question.forced,hcap,Bind.bind,Sem.bind,Pure.pure]
    simp only [execOp,hx,Sem.run_bind,hrun,hr2,Result.andThen,Sem.run_pure,effR];refine h _ _ (e1.trans ⟨rfl,rfl,rfl,by simp,fun b hb _=>by grind⟩) ?_;refine .inr ⟨w1.heap.size,0,cap,Zn s cap,e,((Zn s cap).size,(Zn s cap).size+1),by rw [Zr],by simp,fun x hx e=>?_,by grind [Zr],hcb.2,?_,?_⟩
    · have:=hlt x hx _ e;have:=e1.size;omega
    · simp_all [Zn,Rep.n,U8]
    grind [Zr,Qwd]
  · cases hs
end
end Go.Gw

end
section
set_option linter.unusedSectionVars false
namespace Go.Gw
open Go
section
variable {P:Program} [JD P] {n:Nat} {ρ:Env} {w:World}
variable {d:Option Nat} {t T U:TypeId} {p:String} {af:Array Edge} {gu:Option (Nat×Bool)} {x y z:Operand}

def cutf (v:Value) (hi k:Nat):Value:=match v with
 | .slice a _ _=>.slice (if hi=0 then a else a.map (·.add (0 * k))) hi hi
 | v=>v
def Full (v:Value):Prop:=∃ a k,v=.slice a k k

theorem SlRd.cutF {α:Type} [Rep α] {L:List Value} {w:World} {v:Value} {xs ys:List α} {hi:Int} (hs:SlRd L w v xs) (hc:Gw.cut xs 0 hi=some ys):SlRd L w (cutf v hi.toNat (Rep.n α)) ys:=by
  obtain ⟨h0,h1,h2,rfl⟩:=Qet hc;have hk:hi.toNat<=xs.length:=by omega
  rcases hs with ⟨a0,rfl,rfl⟩ | ⟨b,off,cap,cur,e,fz,rfl,hb,hA,h4,h5,h6,h7⟩
  · have:hi=0:=by grind
    subst this;exact .inl ⟨a0,by rfl,by simp⟩
  · have hlen:((xs.take hi.toNat).drop (0:Int).toNat).length=hi.toNat:=by simp;omega
    have ht:(xs.take hi.toNat).drop (0:Int).toNat=xs.take hi.toNat:=by simp
    have hmul:=Eb (Rep.n α) hk;have hmul2:=Eb (Rep.n α) h4;refine .inr ⟨b,off,hi.toNat,cur,e,fz,?_,hb,hA,by omega,by omega,by omega,?_⟩
    · simp_all [Ej,En,Yy,cutf]
    · rw [hlen,ht];refine ⟨by grind,fun i x hx=>?_⟩;have hi2:i < hi.toNat:=by
        grind
      rw [Ec hi2] at hx;have:=h7.2 i x hx;have hlt:i * Rep.n α+Rep.n α<=hi.toNat * Rep.n α:=by rw [<-Nat.succ_mul];exact Eb _ hi2
      grind [Nat.min_eq_left,List.drop_take]
theorem Full.cut {v:Value} {hi k:Nat} (h:∃ a m c,v=.slice a m c):Full (cutf v hi k):=by
 obtain ⟨a,m,c,rfl⟩:=h;exact ⟨_,_,rfl⟩
theorem SlRd.sl {α:Type} [Rep α] {L:List Value} {w:World} {v:Value} {xs:List α} (h:SlRd L w v xs):∃ a m c,v=.slice a m c:=by
 obtain ⟨a,c,h,_⟩:=h.shape;simp_all

theorem QJv {α:Type} [Rep α] {e:TypeId} {L:List Value} {w2:World} {v:Value} {xs ys:List α} {k k':IntKind} {hi:Int} {u:Operand} (hu:P.underlying T=some (.slice e)) (hz:Xo P e (Rep.n α)) (hs:SlRd L w2 v xs) (hc:cut xs 0 hi=some ys)
  (hx:Qo n ρ x=v) (hh:Qo n ρ z=.int k hi) (hm:Qo n ρ u=.int k' hi):Yl P n ρ ⟨d,.slice T x none (some z) (some u),t,p,af,gu⟩ w (cutf v hi.toNat (Rep.n α)):=by
 obtain ⟨h0,h1,h2,_⟩:=Qet hc;obtain ⟨a,cap,hv,_⟩:=hs.shape;have hcap:xs.length<=cap:=by
  rcases hs with ⟨a0,rfl,rfl⟩ | ⟨b,off,cap',cur,e,fz,rfl,hb,hA,h4,_⟩
  ·simp
  simp_all
 subst hv;refine YU (Yn (Qba _ _ _ _ _)) fun w1 _=>?_;have e1:=Qap (P:=P) (w:=w1) (k:=k') (i:=hi) (y:=cap) (c:=.slice3Acap) (by omega) (by omega);have e2:=Qap (P:=P) (w:=w1) (k:=k) (i:=hi) (y:=hi.toNat) (c:=.slice3B) (by omega) (by omega);simp [execOp,hx,hh,hm,Instr.sliceAt,Instr.slice,run_underlying hu,Instr.sliceBounds,e1,e2,Zk hz,cutf]

theorem QFp {α:Type} [Rep α] {e:TypeId} {bytes:Nat} {zz:Value} {L:List Value} {v vx:Value} {xs ys:List α}
    (hu:P.underlying T=some (.slice e)) (hi:EInfo P e (Rep.n α) bytes zz) (hr:SlRd L w v xs) (hf:Full v) (hs:SlRd L w vx ys) (hne:0 < ys.length)
    (hb:(xs.length+ys.length) * bytes<=140737488355328) (hm:xs.length+ys.length<=maxLen) :
    ∃ v' w',(Builtin.append_ #[T,T] t #[v,vx]).run P w=.ok v' w'/\Ext w w'/\(∀ b,Qs v'=some b->w.heap.size<=b)/\Own e (v'::L) w' v' (xs++ys):=by
  obtain ⟨i,h1,h2,h3,h4,h5,h6⟩:=hi.ex;rcases hs with ⟨a0,rfl,rfl⟩ | ⟨b,off,cap,cur,e',fz,rfl,hblk,hA,hcap,hcm,hsz,hely⟩
  · simp at hne
  have hnl:(((cur.toList.drop off).take (ys.length * Rep.n α))).length=ys.length * Rep.n α:=hely.1;have hnews:∀ j u,((cur.toList.drop off).take (ys.length * Rep.n α))[j]?=some u->w.cell? ((⟨b,off,none⟩:Addr).add j)=some u:=fun j u hu=>by
    grind [World.cell?,Ec,Rep.n,Nat.lt_or_ge,El,Yy]
  -- what lies there
  obtain ⟨olds,hol,hoe⟩:∃ olds:List Value,olds.length=xs.length * Rep.n α/\Elems L w olds xs:=by
    rcases hr with ⟨a0,rfl,rfl⟩ | ⟨_,_,_,_,_,_,_,_,_,_,_,_,h7⟩
    · simp_all [Elems.nil]
    · exact ⟨_,h7.1,h7⟩
  have grown : ∀ (olds : List Value), olds.length = xs.length * Rep.n α -> Elems L w olds xs -> (Builtin.append_ #[T, T] t #[v, .slice (some ⟨b, off, none⟩) ys.length cap]).run P w = .ok (.slice (some ⟨w.heap.size, 0, none⟩) (xs.length + ys.length) (grownCap w (xs.length + ys.length) xs.length e)) (w.drew.alloc (.cells (olds.toArray ++ ((cur.toList.drop off).take (ys.length * Rep.n α)).toArray ++ Builtin.zeroCells zz.cells (grownCap w (xs.length + ys.length) xs.length e - (xs.length + ys.length))) e)) ->
      ∃ v' w',(Builtin.append_ #[T,T] t #[v,.slice (some ⟨b,off,none⟩) ys.length cap]).run P w=.ok v' w'/\Ext w w'/\(∀ b,Qs v'=some b->w.heap.size<=b)/\Own e (v'::L) w' v' (xs++ys):=fun olds hol hoe hr=>by
    have hge:=grownCap_ge w (xs.length+ys.length) xs.length e;have hcm:grownCap w (xs.length+ys.length) xs.length e<=maxLen:=grownCap_le_maxLen w _ _ e hm;have hE:Ext w (w.drew.alloc (.cells (olds.toArray++((cur.toList.drop off).take (ys.length * Rep.n α)).toArray++Builtin.zeroCells zz.cells (grownCap w (xs.length+ys.length) xs.length e - (xs.length+ys.length))) e)) :=
      ⟨rfl,rfl,rfl,by simp,fun k hk _=>heap_alloc_old w.drew _ hk⟩
    have hfr:∀ k,Qs (.slice (some ⟨w.heap.size,0,none⟩) (xs.length+ys.length) (grownCap w (xs.length+ys.length) xs.length e))=some k->w.heap.size<=k:=fun k hk=>by grind [Qs]
    have hlen:(olds++((cur.toList.drop off).take (ys.length * Rep.n α))).length=(xs.length+ys.length) * Rep.n α:=by grind
    refine ⟨_,_,hr,hE,hfr,olds++((cur.toList.drop off).take (ys.length * Rep.n α)),⟨by simp_all,.inr ⟨w.heap.size,_,_,by simp,Nat.zero_le _,heap_alloc_new w.drew _,by simp_all,hcm,?_,?_⟩⟩,?_⟩
    · simp only [Array.size_append,List.size_toArray,size_zeroCells,h5,hol,hnl,<-Nat.add_mul];simp_all
    · grind
    · exact (hoe.append hely).step (Stepp.add _ hE hfr)
  obtain ⟨a,k,hv⟩:=hf;rcases hr with ⟨a0,rfl,rfl⟩ | ⟨b2,off2,cap2,cur2,e2,fz2,rfl,hblk2,hA2,hcap2,hcm2,hsz2,hely2⟩
  · refine grown [] (by simp) Elems.nil ?_;cases a0 with
    | none =>
      have hr:=run_append_nil (P:=P) w T t e i zz hu h1 h4 ⟨b,off,none⟩ ys.length cap _ (by simp_all) hnews hne (by simp only [List.length_nil,Nat.zero_add] at hm;grind [maxLen]) (by grind);simpa using hr
    | some a0 =>
      have hr:=run_append_grow (P:=P) w T t e i zz hu h1 h4 a0 0 0 [] (by simp) (fun j v hv=>by simp at hv) ⟨b,off,none⟩ ys.length cap _ (by simp_all) hnews (by omega) (by simp only [List.length_nil,Nat.zero_add] at hm;grind [maxLen]) (growslice_fits (by omega) (by grind));omega
  · cases hv;have holds:∀ j u,((cur2.toList.drop off2).take (xs.length * Rep.n α))[j]?=some u->w.cell? ((⟨b2,off2,none⟩:Addr).add j)=some u:=fun j u hu=>by
      grind [World.cell?,Ec,Rep.n,Nat.lt_or_ge,El,Yy]
    refine grown _ hely2.1 hely2 ?_;exact run_append_grow (P:=P) w T t e i zz hu h1 h4 ⟨b2,off2,none⟩ xs.length xs.length _ (by grind) holds ⟨b,off,none⟩ ys.length cap _ (by simp_all) hnews (by omega) (by grind [maxLen]) (growslice_fits (by omega) (by simp_all))

theorem Qhx {α:Type} [Rep α] {e:TypeId} {bytes:Nat} {zz:Value} {L:List Value} {v vx:Value} {xs ys zs:List α} {K:Value->World->Prop} {aT:Array TypeId}
  (hu:P.underlying T=some (.slice e)) (hi:EInfo P e (Rep.n α) bytes zz) (hbm:Ek bytes 65536=true) (hT:aT=#[T,T]) (hx:Qo n ρ x=v) (hy:Qo n ρ y=vx) (hr:SlRd L w v xs) (hf:Full v) (hs:SlRd L w vx ys) (hne:0 < ys.length)
  (hz:app xs ys=some zs)
  (h:∀ v' w',Ext w w'->(∀ b,Qs v'=some b->w.heap.size<=b)->Own e (v'::L) w' v' zs->K v' w'):Eff P ⟨d,.call ⟨.builtin .append,#[x,y],aT⟩,t,p,af,gu⟩ n ρ w K:=by
 subst hT;obtain ⟨hb,rfl⟩:=Qlo hz;have hbm:bytes<=65536:=by simpa using hbm
 have:(xs.length+ys.length) * bytes<=1073741824 * 65536:=Nat.mul_le_mul hb hbm;have e0:execOp (Qo n ρ) ⟨d,.call ⟨.builtin .append,#[x,y],#[T,T]⟩,t,p,af,gu⟩=(Builtin.append_ #[T,T] t #[v,vx] >>= fun v=>Pure.pure (Next.value v)):=by
  simp [execOp,resolve,invoke,builtin,hx,hy]
 refine Z8 (by grind [Yn,Qrv]) fun w1 e1=>?_;rw [e0];obtain ⟨v',w',hr',hc,hbl,ho⟩:=QFp (P:=P) (t:=t) hu hi (hr.step (Stepp.ext e1)) hf (hs.step (Stepp.ext e1)) hne (by omega) (by unfold maxLen;omega);simp only [Sem.run_bind,hr',Result.andThen,Sem.run_pure,effR];exact h v' w' (e1.trans hc) (fun b hb=>Nat.le_trans e1.size (hbl b hb)) ho
/-! ### Whether an own slice is nil, told by its list -/
/-! ### Pointers that lie in arrays; loops of few rounds -/
theorem Q2 {v:Value} {b off:Nat} {cs vs:List Value} {T':TypeId} {K:Value->World->Prop} {k:Nat} (hs:Xo P T k) (hv:v.cells.toList=vs) (hk:vs.length=k) (hx:Qo n ρ x=.pointer (some ⟨b,off,none⟩)) (hy:Qo n ρ y=v)
  (hb:Box w b cs T') (hl:Ek (off+k) cs.length=true) (h1:∀ u∈vs,u.oneCell'=true) (hcs:Yb cs off vs=vs)
  (h:∀ w',Chg [.pointer (some ⟨b,0,none⟩)] w w'->Box w' b vs T'->K undef w'):Eff P ⟨d,.store T x y,t,p,af,gu⟩ n ρ w K:=Y4 hs hv hk hx hy hb hl h1 hcs h
theorem QN (w:World):Ext w w:=Chg.refl _ _
end
end Go.Gw

end
section
set_option linter.unusedSectionVars false
namespace Go.Gw
open Go
section
variable {α:Type} [Rep α] {L L':List Value} {w w':World} {b:Nat} {d:α} {v:Value} {o:Option α}
def PtAt (L:List Value) (w:World) (b:Nat) (d:α):Prop:=∃ (cs:List Value) (T:TypeId) (fz:Nat×Nat),w.heap[b]?=some (.cells cs.toArray T fz)/\Avoids L b/\Rep.rd L w cs d
theorem PtAt.step (h:PtAt L w b d) (s:Stepp L w L' w'):PtAt L' w' b d:=by
 obtain ⟨cs,T,fz,h1,h2,h3⟩:=h;obtain ⟨⟨fz',h4⟩,h5⟩:=s.keeps h1 h2;exact ⟨cs,T,fz',h4,h5,Rep.step s h3⟩
def PtRd (L:List Value) (w:World) (v:Value):Option α->Prop
 | none=>v=.pointer none
 | some d=>∃ b,v=.pointer (some ⟨b,0,none⟩)/\PtAt L w b d
theorem PtRd.step (h:PtRd L w v o) (s:Stepp L w L' w'):PtRd L' w' v o:=by
 cases o with
 | none=>exact h
 | some d=>obtain ⟨b,h1,h2⟩:=h;exact ⟨b,h1,h2.step s⟩
theorem PtRd.one1 (h:PtRd L w v o):v.oneCell'=true:=by
 cases o with
 | none=>cases h;rfl
 | some d=>obtain ⟨b,rfl,_⟩:=h;rfl
theorem PtRd.of_box {cs:List Value} {T:TypeId} (h:Box w b cs T) (hA:Avoids L b) (hr:Rep.rd L w cs d):PtRd L w (.pointer (some ⟨b,0,none⟩)) (some d):=⟨b,rfl,cs,T,(0,0),h,hA,hr⟩
end
instance {α:Type} [Rep α]:Rep (Option α):=⟨1,fun L w cs o=>∃ v,PtRd L w v o/\cs=[v],fun ⟨v,_,h⟩=>by subst h;rfl,fun ⟨v,h1,h⟩ u hu=>by subst h;rw [List.mem_singleton.1 hu];exact h1.one1,fun s ⟨v,h1,h⟩=>⟨v,h1.step s,h⟩⟩
section
variable {P:Program} [JD P] {n:Nat} {ρ:Env} {w:World} {d:Option Nat} {t T U:TypeId} {p:String} {af:Array Edge} {gu:Option (Nat×Bool)} {x y:Operand}
/-! ### A slice of zero structs -/
end
end Go.Gw

end
section
set_option linter.unusedSectionVars false
set_option linter.unusedVariables false
namespace Go.Gw
open Go
structure Opq where mk ::
 deriving DecidableEq,Inhabited
def OpqRd (L:List Value) (w:World) (v:Value) (o:Opq):Prop:=v.oneCell'=true
section
variable {L L':List Value} {w w':World} {v:Value} {o:Opq}
theorem OpqRd.step (h:OpqRd L w v o) (s:Stepp L w L' w'):OpqRd L' w' v o:=h
theorem OpqRd.ext (h:OpqRd L w v o) (e:Ext w w'):OpqRd L w' v o:=h
theorem OpqRd.one1 (h:OpqRd L w v o):v.oneCell'=true:=h
theorem OpqRd.of (h:v.oneCell'=true):OpqRd L w v o:=h
end
end Go.Gw

end
