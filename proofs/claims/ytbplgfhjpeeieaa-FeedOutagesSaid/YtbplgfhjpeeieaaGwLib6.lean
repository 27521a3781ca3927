/- Laws of the walk. Condition: each theorem says its own. -/
import Derived.Test.YtbplgfhjpeeieaaGwOps2
import Derived.Test.YtbplgfhjpeeieaaGwCj6
set_option linter.unusedVariables false
set_option linter.unusedSimpArgs false
set_option linter.unusedSectionVars false
section
set_option linter.unusedSectionVars false
namespace Go.Gw
open Go
section
variable {P : Program} [JD P] {n : Nat} {q : Post} {ρ : Env} {w : World}
variable {d : Option Nat} {t T U : TypeId} {p : String} {af : Array Edge} {gu : Option (Nat × Bool)} {x y z : Operand}

theorem Qi {α : Type} {a x : α} (h : some a = some x) : a = x:=Option.some.inj h

theorem Xc {c : Code} (M : Env → World → Prop) (h : ∀ K : Env → World → Prop,(∀ ρ w,M ρ w → K ρ w) → WC P n c ⟨K,q.ex,q.ret⟩ ρ w) (h2 : ∀ ρ w,M ρ w → q.norm ρ w) : WC P n c q ρ w :=
  (h M fun _ _ h=>h).mono h2 (fun _ _ _ h=>h) (fun _ _ h=>h)

structure EqS (P : Program) (T : TypeId) (X Y : Array Value) (r : Bool) : Prop where
  np : ∀ c ∈ X.toList,flat c = true
  run : ∀ w,(Op.equalIn (9999 + 1) T (.agg X) (.agg Y)).run P w = .ok r w
theorem Qzo {X Y : Value} {r : Bool} (h : (Op.equalIn (9999 + 1) T X Y).run P w = .ok r w) : (Op.equal T X Y).run P w = .ok r w:=by
  rw [Op.equal,show Op.maxDepth = 9999 + 1 from rfl]; exact h
theorem QBj {X Y : Array Value} {r : Bool} {f : Bool → Bool} (hg : P.eqGuardType P.depth T = false) (h : EqS P T X Y r) : Tame P (Op.equal T (.agg X) (.agg Y)):=Qls _ _ _ _ (.inr ⟨X,rfl,h.np⟩)
theorem QBk {α : Type} {op : BinOp} {X Y : Array Value} {m : Sem α} (hg : P.eqGuardType P.depth T = false) (hm : Tame P m) : Tame P (eqGuard op T x y (.agg X) (.agg Y) >>= fun _=>m):=by
  refine .same _ m (fun w es=>?_) hm
  refine ZR (a:=()) (w':=w) (es':=es) ?_
  cases op <;> simp [eqGuard,hg]
theorem QUr {X Y : Array Value} {r : Bool} (hg : P.eqGuardType P.depth T = false) (hx : QC n ρ x = .agg X) (hy : QC n ρ y = .agg Y) (h : EqS P T X Y r) : Yl P n ρ ⟨d,.binOp .eql T x y U,t,p,af,gu⟩ w (.bool r) :=
  Qai (Zs (by simp only [hx,hy]; exact QBk hg (.bnd (QBj (f:=id) hg h) fun _=>.pure _))) fun w1 _=>by simp [execOp,hx,hy,eqGuard,binOp,Qzo (h.run w1),hg,Result.andThen]
theorem Qhp {X Y : Array Value} {r : Bool} (hg : P.eqGuardType P.depth T = false) (hx : QC n ρ x = .agg X) (hy : QC n ρ y = .agg Y) (h : EqS P T X Y r) : Yl P n ρ ⟨d,.binOp .neq T x y U,t,p,af,gu⟩ w (.bool (!r)) :=
  Qai (Zs (by simp only [hx,hy]; exact QBk hg (.bnd (QBj (f:=id) hg h) fun _=>.pure _))) fun w1 _=>by simp [execOp,hx,hy,eqGuard,binOp,Qzo (h.run w1),hg,Result.andThen]

theorem Elems.cons {α : Type} [Rep α] {L : List Value} {cs rest : List Value} {x : α} {xs : List α} (h : Rep.rd L w cs x) (hs : Elems L w rest xs) : Elems L w (cs ++ rest) (x :: xs):=(Elems.one h).append hs

end
end Go.Gw
namespace Go.Gw
open Go
section
variable {P : Program} {T : TypeId}
theorem YM {k : Nat} (h : (P.info? T).map (·.size) = some k) : XV P T k:=by
  cases hi : P.info? T with
  | none=>simp [hi] at h
  | some i=>simp [hi] at h; exact ⟨i,hi,h⟩
theorem ZK {k : Nat} {dsc : TypeDesc} (hm : match dsc with | .struct _ | .array _ _=>True | _=>False) (hu : P.underlying T = some dsc) (h : (P.info? T).map (·.size) = some k) : Aggr P T k:=by
  obtain ⟨i,hi,hk⟩:=YM h
  exact ⟨dsc,i,hu,hm,hi,hk⟩
theorem J2 {k bytes : Nat} {z : Value} (h : (P.info? T).bind (fun i=>i.zero.map fun z=>(i.size,i.bytes,z)) = some (k,bytes,z)) (hz : z.cells.size = k) (hk : 0 < k) : EInfo P T k bytes z:=by
  cases hi : P.info? T with
  | none=>simp [hi] at h
  | some i =>
    simp only [hi,Qv,Option.map_eq_some_iff,Prod.mk.injEq] at h
    obtain ⟨z',h1,h2,h3,h4⟩:=h
    exact ⟨⟨i,hi,h2,h3,by rw [h1,h4],hz,hk⟩⟩
theorem ZM {places : List (Nat × Nat)} {zero : List Value} {fs : Array Field} (hu : P.underlying T = some (.struct fs)) (hz : (P.info? T).bind (fun i => i.zero.map fun z => z.cells) = some zero.toArray)
    (hp : fs.toList.mapM (fun f=>(P.info? f.type).map fun i=>(f.offset,i.size)) = some places) : BI P T places zero:=by
  cases hi : P.info? T with
  | none=>simp [hi] at hz
  | some i =>
    simp only [hi,Qv,Option.map_eq_some_iff] at hz
    obtain ⟨z,h1,h2⟩:=hz
    exact ⟨⟨i,fs,z,hi,hu,h1,h2,hp⟩⟩
theorem ZG {cs : List Value} (hz : (P.info? T).bind (fun i=>i.zero.map fun z=>z.cells.toList) = some cs) : ZI P T cs:=by
  cases hi : P.info? T with
  | none=>simp [hi] at hz
  | some i =>
    simp only [hi,Qv,Option.map_eq_some_iff] at hz
    obtain ⟨z,h1,h2⟩:=hz
    exact ⟨⟨i,z,hi,h1,h2⟩⟩
end
end Go.Gw
namespace Go.Gw
open Go
theorem QZ {L : List Value} {w : World} {b : Nat} {cs : List Value} {T : TypeId} (h : LtL L w) (hB : Box w b cs T) : LtL (.pointer (some ⟨b,0,none⟩) :: L) w:=h.cons fun k hk=>by
  have e : b = k:=by simpa [Qh] using hk
  subst e; exact hB.lt
theorem XF {α : Type} [Rep α] {e : TypeId} {L L' : List Value} {w : World} {v : Value} {xs : List α} (h : LtL L w) (hO : Own e L' w v xs) : LtL (v :: L) w:=h.cons fun _ hk=>hO.blk_lt hk
end Go.Gw
namespace Go.Gw
open Go
theorem XO {v : Value} (h : v.oneCell' = true) : v.cells.toList = [v]:=by
  cases v <;> first | rfl | cases h

def Qdp (place : Nat → Option (Nat × Nat)) (cells : List Value) : List (Nat × List Value) → Option (List Value)
  | []=>some cells
  | (i,vs) :: rest =>
    match place i with
    | none=>none
    | some (off,size)=>bif Nat.beq vs.length size && Nat.ble (off + vs.length) cells.length then Qdp place (YY cells off vs) rest else none
theorem Qwn (place : Nat → Option (Nat × Nat)) : ∀ (pv : List (Nat × Value)) (cells : List Value),JS place cells pv = Qdp place cells (pv.map fun q=>(q.1,q.2.cells.toList))
  | [],_=>rfl
  | (i,v) :: rest,cells=>by
    simp only [JS,Qdp,List.map_cons]
    cases place i with
    | none=>rfl
    | some p=>simp only [Qwn place rest]

section
variable {P : Program} [JD P] {n : Nat} {q : Post} {ρ : Env} {w : World}
variable {d : Option Nat} {t T U : TypeId} {p : String} {af : Array Edge} {gu : Option (Nat × Bool)} {x y z : Operand}
def PC (n : Nat) (ρ : Env) (parts : List (Nat × Operand)) (pc : List (Nat × List Value)) : Prop:=parts.map (fun q=>(q.1,(QC n ρ q.2).cells.toList)) = pc
theorem QV : PC n ρ [] []:=rfl
theorem QB {i : Nat} {v : Value} {cs : List Value} {ps : List (Nat × Operand)} {pc : List (Nat × List Value)} (h : QC n ρ x = v) (hc : v.cells.toList = cs) (hs : PC n ρ ps pc) : PC n ρ ((i,x) :: ps) ((i,cs) :: pc):=by
  subst h; subst hc; unfold PC at hs ⊢; rw [List.map_cons,hs]
theorem PC.fill {parts : List (Nat × Operand)} {pc : List (Nat × List Value)} {place : Nat → Option (Nat × Nat)} {cells out : List Value} (h : PC n ρ parts pc) (hf : Qdp place cells pc = some out) : JS place cells (parts.map fun q=>(q.1,QC n ρ q.2)) = some out:=by
  rw [Qwn,List.map_map]; unfold PC at h; rw [← hf,← h]; rfl
theorem Xq {cells zero : List Value} {places : List (Nat × Nat)} {parts : List (Nat × Operand)} {pc : List (Nat × List Value)} (hB : BI P T places zero) (hp : PC n ρ parts pc) (h : Qdp (places[·]?) zero pc = some cells) :
    Yl P n ρ ⟨d,.build T parts.toArray,t,p,af,gu⟩ w (.agg cells.toArray):=QUp hB (hp.fill h)
theorem XA {α : Type} [Rep α] {e : TypeId} {bytes : Nat} {z : Value} {L : List Value} {len : Nat} {xs : List α} {cells : List Value} {parts : List (Nat × Operand)} {pc : List (Nat × List Value)} {K : Value → World → Prop}
    (hu : P.underlying T = some (.slice e)) (hi : EInfo P e (Rep.n α) bytes z) (hsmall : Nat.ble (len * Rep.n α) 16777216 = true)
    (hp : PC n ρ parts pc) (hf : Qdp (fun i=>some (i * Rep.n α,Rep.n α)) (Qep z.cells.toList (len * Rep.n α)) pc = some cells)
    (hel : Elems L w cells xs) (hl : xs.length = len) (hlt : LtL L w)
    (h : ∀ b w',Ext w w' → SlRd L w' (.slice (some ⟨b,0,none⟩) len len) xs → K (.slice (some ⟨b,0,none⟩) len len) w') : Eff P ⟨d,.buildSlice T len parts.toArray,t,p,af,gu⟩ n ρ w K :=
  QEj hu hi hsmall (hp.fill hf) hel hl hlt h
end
end Go.Gw
namespace Go.Gw
open Go
section
variable {P : Program} [JD P] {n : Nat} {ρ : Env} {w : World}
variable {d : Option Nat} {t T U : TypeId} {p : String} {af : Array Edge} {gu : Option (Nat × Bool)} {x y z : Operand}
theorem Qfd {f : FuncId} {fn : Func} {c : Code} {xs : Array Operand} {aT : Array TypeId} {args : List Value} {K Φ : Value → World → Prop} (hy : QC n ρ y = .func (.func f) #[] #[]) (hf : P.funcs[f]? = some fn) (hname : (fn.name == "runtime.NumGoroutine") = false) (hb : fn.body = some c)
    (ha : (xs.map (QC n ρ)).toList = args) (hc : CallsTo P f args w Φ) (h : ∀ v w',Φ v w' → K v w') : Eff P ⟨d,.call ⟨.value y,xs,aT⟩,t,p,af,gu⟩ n ρ w K:=by
  have e : xs.map (QC n ρ) = args.toArray:=by rw [← ha]
  have this : ∀ w es,(execOp (QC n ρ) ⟨d,.call ⟨.value y,xs,aT⟩,t,p,af,gu⟩).runT P w es = (.ok (.enter f args.toArray) w,es):=fun w es=>by
    refine Eq.trans ?_ (Qqf (args:=args.toArray) hf hname hb)
    simp only [execOp,resolve,Deferred.ofValue,invoke,e,hy,pure_bind,Array.empty_append,Array.append_empty]
  refine ⟨.still _ this,.inr fun w1 r=>?_⟩
  rw [show (execOp (QC n ρ) ⟨d,.call ⟨.value y,xs,aT⟩,t,p,af,gu⟩).run P w1 = _ from by rw [← Sem.runT_fst P _ w1 #[],this]]
  exact CallsJ.rely (CallsTo.mono hc h) r
theorem At.elem {a : Addr} {cs : List Value} {i : Nat} {u : Value} (h : At w a cs) (hi : cs[i]? = some u) : At w (a.add (i * 1)) [u]:=by
  have h2:=(At.drop h i).take 1
  rw [Nat.mul_one]
  obtain ⟨hl,he⟩:=List.getElem?_eq_some_iff.1 hi
  have : (cs.drop i).take 1 = [u]:=by rw [List.drop_eq_getElem_cons hl]; simp [he]
  rwa [this] at h2
end
end Go.Gw
namespace Go.Gw
open Go
end Go.Gw

end
section
set_option linter.unusedSectionVars false
namespace Go.Gw
open Go
section
variable {P : Program} [JD P] {n : Nat} {ρ : Env} {w : World}
variable {d : Option Nat} {t T U : TypeId} {p : String} {af : Array Edge} {gu : Option (Nat × Bool)} {x y z : Operand}

theorem QQp {cs : List Value} {off : Nat} {v : Value} (hT : ZJ P T) (h : cs[off]? = some v) : (part T cs.toArray off).run P w = .ok v w:=by
  simp [part,Qzp hT,h]
theorem QCe {fs : Array Field} {f : Field} {cs : List Value} {i : Nat} {v : Value} (hu : P.underlying T = some (.struct fs)) (hf : fs[i]? = some f) (hT : ZJ P f.type) (hx : QC n ρ x = .agg cs.toArray)
    (h : cs[f.offset]? = some v) : Yl P n ρ ⟨d,.field T x i,t,p,af,gu⟩ w v:=QUs hu hf hx (QQp hT h)
def QQv {α : Type} (i : Nat) (v : α) : Nat → List α → List α
  | _,[]=>[]
  | k,x :: xs=>(bif Nat.beq i k then v else x) :: QQv i v (k + 1) xs
end
end Go.Gw

end
