/- Laws of the walk. Condition: each theorem says its own. -/
import Derived.Test.YtpgpimedmpeliaaGreatDoorGwMem
import Derived.Test.YtpgpimedmpeliaaGreatDoorGwCj5
import Derived.Laws.MakeOwn
import Derived.KernelRfl
set_option linter.unusedVariables false
set_option linter.unusedSimpArgs false
set_option linter.unusedSectionVars false
section
set_option linter.unusedSectionVars false
namespace Go.Gw
open Go

section
variable {P:Program} [JD P] {n:Nat} {ρ:Env} {w:World}
variable {d:Option Nat} {t T U:TypeId} {p:String} {af:Array Edge} {gu:Option (Nat×Bool)} {x y z:Operand}


theorem X0 {o:Oper} {v:Value} (ht:Tame P (execOp (Qk n ρ) o)) (h:∀ w1,Ext w w1→(execOp (Qk n ρ) o).run P w1=.ok (.value v) w1):Yl P n ρ o w v:=⟨ht.fr,fun w1 r=>h w1 r.ext⟩
theorem YE {o:Oper} {K:Value→World→Prop} (ht:Tame P (execOp (Qk n ρ) o)) (h:∀ w1,Ext w w1→effR P K ((execOp (Qk n ρ) o).run P w1)):Eff P o n ρ w K:=⟨ht.fr,.inr fun w1 r=>h w1 r.ext⟩
theorem QLb {fs : Array Field} {i : Nat} {f : Field} {k : Nat} {a : Addr} (hu : P.underlying T = some (.struct fs)) (hf : fs[i]? = some f) (hs : Q3 P f.type (k + 1)) (hx : Qk n ρ x = .pointer (some a)) :
    Yl P n ρ ⟨d,.fieldAddr T x i,t,p,af,gu⟩ w (.pointer (some (a.add f.offset))):=XM fun w es=>by
  refine (QX (a:=Value.pointer (some (a.add f.offset))) (w':=w) (es':=es) ?_).trans rfl
  rw [hx]
  refine (QX (Yn hu)).trans ?_
  simp only [hf,Instr.sureAddr,pure_bind]
  refine (QX (a:=a.add f.offset) ?_).trans rfl
  exact (QX (Qdh hs)).trans rfl

theorem Qn {a:Addr} {v:Value} {cs:List Value} (hT:X1 P T) (hx:Qk n ρ x=.pointer (some a)) (hat:At w a (v::cs)):Yl P n ρ ⟨d,.load T x,t,p,af,gu⟩ w v:=X0 (Xu (Qst _ _)) fun w1 e1=>by
  have h0:=(At.ext e1 hat).2 0 v rfl
  have e:a.add 0=a:=by simp [Addr.add]
  rw [e] at h0
  simp [execOp,hx,Instr.loadAt,Instr.sureAddr,loadVar,Qrd hT,h0]

theorem QS {a:Addr} {cs:List Value} (hT:Aggr P T cs.length) (hx:Qk n ρ x=.pointer (some a)) (hat:At w a cs):Yl P n ρ ⟨d,.load T x,t,p,af,gu⟩ w (.agg cs.toArray):=X0 (Xu (Qst _ _)) fun w1 e1=>by
  simp [execOp,hx,Instr.loadAt,Instr.sureAddr,loadVar,Qkl hT,X4 hT.size,run_loadCells_list w1 a cs (At.ext e1 hat).2]

def QY (v:Value) (i k:Nat):Addr:=match v with | .slice (some a) _ _=>a.add (i * k) | _=>default

def idx {α:Type} (xs:List α) (i:Int):Option α:=if 0≤i then xs[i.toNat]? else none

theorem Yr {α:Type} {xs:List α} {i:Int} {x:α} (h:idx xs i=some x):0≤i∧i.toNat < xs.length∧xs[i.toNat]?=some x:=by
  unfold idx at h
  split at h
  · rename_i h0;exact ⟨h0,(List.getElem?_eq_some_iff.1 h).1,h⟩
  · cases h

theorem Xi {α : Type} [Rep α] {e : TypeId} {L : List Value} {w2 : World} {v : Value} {xs : List α} {k : IntKind} {i : Int} {el : α} (hu : P.underlying T = some (.slice e)) (hs : Q3 P e (Rep.n α)) (hsl : SlRd L w2 v xs)
    (hel:idx xs i=some el) (hx:Qk n ρ x=v) (hy:Qk n ρ y=.int k i):Yl P n ρ ⟨d,.indexAddr T x y,t,p,af,gu⟩ w (.pointer (some (QY v i.toNat (Rep.n α)))):=by
  obtain ⟨h0,h1,_⟩:=Yr hel
  rcases hsl with ⟨_,_,rfl⟩ | ⟨b,off,cap,cur,e',fz,rfl,_⟩
  · simp at h1
  · have h2:i < (xs.length:Int):=by omega
    exact X0 (Xu (Qgu _ _ _)) fun w1 _=>by simp [execOp,hx,hy,Instr.indexAt,asIntOf,run_underlying hu,h0,h2,X4 hs,QY]

theorem SlRd.at {α:Type} [Rep α] {L:List Value} {v:Value} {xs:List α} {i:Int} {el:α} (hsl:SlRd L w v xs) (hel:idx xs i=some el):∃ cs,At w (QY v i.toNat (Rep.n α)) cs∧Rep.rd L w cs el:=by
  obtain ⟨h0,h1,h2⟩:=Yr hel
  rcases hsl with ⟨_,_,rfl⟩ | ⟨b,off,cap,cur,e',fz,rfl,hb,_,h4,_,h6,h7⟩
  · simp at h1
  · refine ⟨_,?_,h7.2 _ el h2⟩
    simp only [QY,Yq]
    refine At.of_block hb fun j u hu=>?_
    have hj:j < Rep.n α:=by
      rcases Nat.lt_or_ge j (Rep.n α) with h | h
      · exact h
      · rw [List.getElem?_eq_none (by simp;omega)] at hu;cases hu
    rw [List.getElem?_take_of_lt hj,List.getElem?_drop] at hu
    have hlt:i.toNat * Rep.n α+j < xs.length * Rep.n α:=by
      have:(i.toNat+1) * Rep.n α≤xs.length * Rep.n α:=Nat.mul_le_mul_right _ h1
      rw [Nat.succ_mul] at this;omega
    rw [List.getElem?_take_of_lt hlt,List.getElem?_drop] at hu
    rw [← Array.getElem?_toList,← hu,Nat.add_assoc]

/-! ### New blocks -/
theorem Qvz {v : Value} {K : Value → World → Prop} (hx : Qk n ρ x = v)
    (h:∀ b w',w.heap.size≤b→Ext w w'→Box w' b v.cells.toList T→K (.pointer (some ⟨b,0,none⟩)) w'):Eff P ⟨d,.box T x,t,p,af,gu⟩ n ρ w K:=YE (Xu (QJb _ _)) fun w1 e1=>by
  simp only [execOp,hx]
  have:(Instr.box T v).run P w1=.ok (.pointer (some ⟨w1.heap.size,0,none⟩)) { w1 with heap:=w1.heap.push (.cells v.cells T (0,0)) }:=by
    simp [Instr.box,newVar,newRow,newObj];rfl
  simp only [Sem.run_bind,this,Result.andThen,Sem.run_pure,effR]
  exact h _ _ e1.size (e1.trans (Ext.alloc ..)) (by simp [Box])

theorem Qvw {z : Value} {i : TypeInfo} {K : Value → World → Prop} (hi : P.info? T = some i) (hz : i.zero = some z)
    (h:∀ b w',w.heap.size≤b→Ext w w'→Box w' b z.cells.toList T→K (.pointer (some ⟨b,0,none⟩)) w'):Eff P ⟨d,.alloc T,t,p,af,gu⟩ n ρ w K:=YE (Xu (QIx _)) fun w1 e1=>by
  simp only [execOp]
  have:(Instr.alloc T true (.tuple #[])).run P w1=.ok (.pointer (some ⟨w1.heap.size,0,none⟩)) { w1 with heap:=w1.heap.push (.cells z.cells T (0,0)) }:=by
    simp [Instr.alloc,zeroValue,typeInfo,hi,hz,newVar,newRow,newObj];rfl
  simp only [Sem.run_bind,this,Result.andThen,Sem.run_pure,effR]
  exact h _ _ e1.size (e1.trans (Ext.alloc ..)) (by simp [Box])

/-! ### Stores -/
def X9 (cs:List Value) (off:Nat):List Value→List Value
  | []=>cs
  | v::vs=>X9 (cs.set off v) (off+1) vs

theorem Qvl (w:World) (b off:Nat) (v:Value):Chg [.pointer (some ⟨b,0,none⟩)] w (w.setCell ⟨b,off,none⟩ v) :=
  ⟨rfl,rfl,rfl,by simp [World.setCell],fun k _ hA=>by
    have hne:b≠k:=fun e=>hA _ (List.mem_singleton.2 rfl) (by simp [Qj,e])
    simp [World.setCell,Array.getElem?_modify,hne]⟩

theorem Qrf (T : TypeId) (b : Nat) : ∀ (vs : List Value) (off i : Nat) (cs : List Value) (w : World), Box w b cs T → off + i + vs.length ≤ cs.length → (∀ v ∈ vs, v.oneCell' = true) →
    ∃ w',(storeCells ⟨b,off,none⟩ vs i).run P w=.ok () w'∧Box w' b (X9 cs (off+i) vs) T∧Chg [.pointer (some ⟨b,0,none⟩)] w w'∧w'.heap.size=w.heap.size
  | [],off,i,cs,w,hb,_,_=>⟨w,rfl,hb,Chg.refl _ _,rfl⟩
  | v::vs,off,i,cs,w,hb,hl,h1=>by
    have hlt:off+i < cs.length:=by simp at hl;omega
    have hc:w.cell? ⟨b,off+i,none⟩=some cs[off+i]:=by simp [World.cell?,show w.heap[b]?=_ from hb,hlt]
    have hfz:w.frozen? ⟨b,off+i,none⟩=false:=by simp [World.frozen?,show w.heap[b]?=_ from hb]
    have hbox:Box (w.setCell ⟨b,off+i,none⟩ v) b (cs.set (off+i) v) T:=by
      have hb':w.heap[b]?=some (.cells cs.toArray T (0,0)):=hb
      simp [Box,World.setCell,Array.getElem?_modify,hb']
    obtain ⟨w',hr,hb2,hc2,hs2⟩:=Qrf T b vs off (i+1) (cs.set (off+i) v) (w.setCell ⟨b,off+i,none⟩ v) hbox (by simp at hl ⊢;omega) (fun u hu=>h1 u (List.mem_cons_of_mem _ hu))
    refine ⟨w',?_,hb2,(Qvl ..).trans hc2,by rw [hs2];simp [World.setCell]⟩
    have hst:(store ((⟨b,off,none⟩:Addr).add i) v).run P w=.ok () (w.setCell ⟨b,off+i,none⟩ v):=by
      have:=h1 v (List.mem_cons_self ..)
      rw [Yq]
      cases v<;>simp [Value.oneCell'] at this<;>simp [store,Sem.run,hc,hfz]
    simp only [storeCells,Sem.run_bind,hst,Result.andThen]
    exact hr

theorem Qwi {v : Value} {b off : Nat} {cs : List Value} {T' : TypeId} {K : Value → World → Prop} (hs : Q3 P T v.cells.size) (hx : Qk n ρ x = .pointer (some ⟨b, off, none⟩)) (hy : Qk n ρ y = v)
    (hb:Box w b cs T') (hl:off+v.cells.size≤cs.length) (h1:∀ u∈v.cells.toList,u.oneCell'=true)
    (h:∀ w',Chg [.pointer (some ⟨b,0,none⟩)] w w'→Box w' b (X9 cs off v.cells.toList) T'→K undef w'):Eff P ⟨d,.store T x y,t,p,af,gu⟩ n ρ w K:=YE (Qlb (Qla _ _ _)) fun w1 e1=>by
  obtain ⟨w',hr,hb2,hc2,_⟩:=Qrf (P:=P) T' b v.cells.toList off 0 cs w1 (hb.ext e1) (by simpa using hl) h1
  simp only [execOp,hx,hy]
  have:(Instr.storeAt T (.pointer (some ⟨b,off,none⟩)) v).run P w1=.ok () w':=by
    simp [Instr.storeAt,Instr.sureAddr,storeVar,X4 hs,hr]
  simp only [Sem.run_bind,this,Result.andThen,Sem.run_pure,effR]
  exact h w' ((e1.mono (fun _ h=>by cases h)).trans hc2) (by simpa using hb2)

/-! ### Calls -/
theorem Qp {f : FuncId} {fn : Func} {c : Code} {xs : Array Operand} {aT : Array TypeId} {args : List Value} {K Φ : Value → World → Prop} (hf : P.funcs[f]? = some fn) (hname : (fn.name == "runtime.NumGoroutine") = false) (hb : fn.body = some c)
    (ha:(xs.map (Qk n ρ)).toList=args) (hc:CallsTo P f args w Φ) (h:∀ v w',Φ v w'→K v w'):Eff P ⟨d,.call ⟨.value (.func f),xs,aT⟩,t,p,af,gu⟩ n ρ w K:=by
  have e:xs.map (Qk n ρ)=args.toArray:=by rw [← ha]
  have this:∀ w es,(execOp (Qk n ρ) ⟨d,.call ⟨.value (.func f),xs,aT⟩,t,p,af,gu⟩).runT P w es=(.ok (.enter f args.toArray) w,es):=fun w es=>by
    refine Eq.trans ?_ (Qgk (args:=args.toArray) hf hname hb)
    simp only [execOp,resolve,Deferred.ofValue,invoke,e,Qk,pure_bind,Array.empty_append,Array.append_empty]
  refine ⟨(Tame.still _ this).fr,.inr fun w1 r=>?_⟩
  rw [show (execOp (Qk n ρ) ⟨d,.call ⟨.value (.func f),xs,aT⟩,t,p,af,gu⟩).run P w1=_ from by rw [← Sem.runT_fst P _ w1 #[],this]]
  exact CallsJ.rely (CallsTo.mono hc h) r

end
end Go.Gw

end
section
set_option linter.unusedSectionVars false
namespace Go.Gw
open Go

section
variable {P:Program} [JD P] {n:Nat} {ρ:Env} {w:World}
variable {d:Option Nat} {t T U:TypeId} {p:String} {af:Array Edge} {gu:Option (Nat×Bool)} {x y z:Operand}

omit [JD P] in
structure EInfo (P:Program) (e:TypeId) (k bytes:Nat) (z:Value):Prop where
  ex:∃ i,P.info? e=some i∧i.size=k∧i.bytes=bytes∧i.zero=some z∧z.cells.size=k∧0 < k

omit [JD P] in
theorem EInfo.size {e:TypeId} {k bytes:Nat} {z:Value} (h:EInfo P e k bytes z):Q3 P e k:=by
  obtain ⟨i,hi,hk,_⟩:=h.ex;exact ⟨i,hi,hk⟩

theorem Own.made {α : Type} [Rep α] {e : TypeId} {L L' : List Value} {xs : List α} {cells : List Value} (h : Elems L w cells xs) (hcap : xs.length ≤ maxLen) (st : Stepp L w L' { w with heap := w.heap.push (.cells cells.toArray e (0, 0)) }) :
    Own e L' { w with heap:=w.heap.push (.cells cells.toArray e (0,0)) } (.slice (some ⟨w.heap.size,0,none⟩) xs.length xs.length) xs:=by
  refine ⟨cells,⟨h.1,.inr ⟨w.heap.size,xs.length,cells.toArray,rfl,Nat.zero_le _,by simp,Nat.le_refl _,hcap,by simpa using h.1,?_⟩⟩,h.step st⟩
  rw [← h.1];simp


/-! ### Filling, over lists -/
def Zs (place:Nat→Option (Nat×Nat)) (cells:List Value):List (Nat×Value)→Option (List Value)
  | []=>some cells
  | (i,v)::rest =>
    match place i with
    | none=>none
    | some (off,size)=>bif Nat.beq v.cells.toList.length size&&Nat.ble (off+v.cells.toList.length) cells.length then Zs place (X9 cells off v.cells.toList) rest else none

theorem Qyk (vs:List Value):∀ (cs:Array Value) (off j:Nat),((vs.zipIdx j).foldl (fun (cs:Array Value) (q:Value×Nat)=>cs.setIfInBounds (off+q.2) q.1) cs)=(X9 cs.toList (off+j) vs).toArray:=by
  induction vs with
  | nil=>intro cs off j;simp [X9]
  | cons v vs ih =>
    intro cs off j
    simp only [List.zipIdx_cons,List.foldl_cons,X9]
    rw [ih]
    simp [Nat.add_assoc]

theorem Qfe {place:Nat→Option (Nat×Nat)}:∀ (parts:List (Nat×Value)) (cells out:List Value),Zs place cells parts=some out→Instr.fill place cells.toArray parts=some out.toArray
  | [],cells,out,h=>by simp [Zs] at h;simp [Instr.fill,h]
  | (i,v)::rest,cells,out,h=>by
    simp only [Zs] at h
    simp only [Instr.fill]
    cases hp:place i with
    | none=>simp [hp] at h
    | some q =>
      obtain ⟨off,size⟩:=q
      simp only [hp] at h
      cases hb:(Nat.beq v.cells.toList.length size&&Nat.ble (off+v.cells.toList.length) cells.length) with
      | false=>simp only [hb,cond_false] at h;cases h
      | true =>
        simp only [hb,cond_true] at h
        simp only [Bool.and_eq_true,Nat.beq_eq,Nat.ble_eq,Array.length_toList] at hb
        have h1:¬ (v.cells.size≠size||decide (off+v.cells.size > cells.toArray.size))=true:=by simp;omega
        have h2:=Qyk v.cells.toList cells.toArray off 0
        have h3:v.cells.zipIdx.foldl (fun cs (c,j)=>cs.setIfInBounds (off+j) c) cells.toArray=(X9 cells off v.cells.toList).toArray:=by
          rw [← Array.foldl_toList]
          simpa using h2
        simp only [h3]
        rw [if_neg h1]
        exact Qfe rest _ _ h

def JT (z:List Value) (k:Nat):List Value:=(List.range k).map fun i=>z.getD (i % z.length) undef

theorem QLo (z:Array Value) (k:Nat) (h:0 < z.size∨k=0):(Array.range k).map (z[· % z.size]!)=(JT z.toList k).toArray:=by
  apply Array.ext'
  simp only [Array.toList_map,Array.toList_range,JT]
  apply List.map_congr_left
  intro i hi
  rcases h with h | h
  · have:=Nat.mod_lt i h
    simp [List.getD,this]
  · subst h;simp at hi

theorem Qii {α : Type} [Rep α] {e : TypeId} {bytes : Nat} {z : Value} {L : List Value} {len : Nat} {xs : List α} {cells : List Value} {parts : Array (Nat × Operand)} {K : Value → World → Prop}
    (hu:P.underlying T=some (.slice e)) (hi:EInfo P e (Rep.n α) bytes z) (hsmall:Nat.ble (len * Rep.n α) 16777216=true)
    (hf':Zs (fun i=>some (i * Rep.n α,Rep.n α)) (JT z.cells.toList (len * Rep.n α)) (parts.toList.map fun q=>(q.1,Qk n ρ q.2))=some cells)
    (hel:Elems L w cells xs) (hl:xs.length=len)
    (h:∀ b w',w.heap.size≤b→Ext w w'→Own e L w' (.slice (some ⟨b,0,none⟩) len len) xs→Own e (.slice (some ⟨b,0,none⟩) len len::L) w' (.slice (some ⟨b,0,none⟩) len len) xs→K (.slice (some ⟨b,0,none⟩) len len) w'):Eff P ⟨d,.buildSlice T len parts,t,p,af,gu⟩ n ρ w K:=YE (Xu (QJc _ _ _)) fun w1 e1=>by
  obtain ⟨i,h1,h2,h3,h4,h5,h6⟩:=hi.ex
  have hsm:¬ len * Rep.n α > 2 ^ 24:=by
    have:len * Rep.n α≤16777216:=by simpa using hsmall
    omega
  have hcap:xs.length≤maxLen:=by
    have h7:len * 1≤len * Rep.n α:=Nat.mul_le_mul_left _ h6
    have:len * Rep.n α≤16777216:=by simpa using hsmall
    unfold maxLen;omega
  have hf:Instr.fill (fun i=>some (i * Rep.n α,Rep.n α)) ((Array.range (len * Rep.n α)).map (z.cells[· % z.cells.size]!)) (parts.map fun q=>(q.1,Qk n ρ q.2)).toList=some cells.toArray:=by
    rw [QLo z.cells _ (.inl (by omega)),Array.toList_map]
    exact Qfe _ _ _ hf'
  have hz:(Array.map (fun q:Nat×Operand=>(q.1,Qk n ρ q.2)) parts)=Array.map (fun (i,x)=>(i,Qk n ρ x)) parts:=rfl
  have hr:(Instr.buildSlice T len (parts.map fun (i,x)=>(i,Qk n ρ x))).run P w1=.ok (.slice (some ⟨w1.heap.size,0,none⟩) len len) { w1 with heap:=w1.heap.push (.cells cells.toArray e (0,0)) }:=by
    rw [hz] at hf
    have hzv:(zeroValue e).run P w1=.ok z w1:=by simp [zeroValue,typeInfo,h1,h4]
    by_cases h0:len * Rep.n α=0
    · have hl0:len=0:=by rcases Nat.mul_eq_zero.1 h0 with h | h;exact h;omega
      subst hl0
      have hf':Instr.fill (fun i=>some (i * Rep.n α,Rep.n α)) #[] (parts.map fun (i,x)=>(i,Qk n ρ x)).toList=some cells.toArray:=by rw [← hf];congr 1;simp
      have e0:(Array.map (fun x=>(#[]:Array Value)[x % (#[]:Array Value).size]!) (Array.range 0))=#[]:=by simp
      simp only [Instr.buildSlice,Sem.run_bind,run_underlying hu,Result.andThen,X4 hi.size,Nat.zero_mul]
      rw [if_neg (by decide),if_pos trivial,Sem.run_bind,Sem.run_pure]
      simp only [Result.andThen,e0,hf']
      rfl
    · simp only [Instr.buildSlice,Sem.run_bind,run_underlying hu,Result.andThen,X4 hi.size,if_neg hsm,if_neg h0,hzv,Sem.run_pure]
      rw [hf]
      rfl
  simp only [execOp,Sem.run_bind,hr,Result.andThen,Sem.run_pure,effR]
  have hel:=hel.step (Stepp.ext (L:=L) e1)
  have o1:=Own.made (e:=e) hel hcap (Stepp.ext (Ext.alloc ..))
  have o2:=Own.made (e:=e) hel hcap (Stepp.add (.slice (some ⟨w1.heap.size,0,none⟩) len len) (Ext.alloc ..) (fun b hb=>by simp [Qj] at hb;omega))
  rw [hl] at o1 o2
  exact h _ _ e1.size (e1.trans (Ext.alloc ..)) o1 o2

theorem Qrb {α : Type} [Rep α] {e : TypeId} {bytes : Nat} {zz : Value} {L : List Value} {v vx : Value} {xs ys : List α}
    (hu:P.underlying T=some (.slice e)) (hi:EInfo P e (Rep.n α) bytes zz) (hown:Own e (v::L) w v xs) (hs:SlRd (v::L) w vx ys)
    (hb:(xs.length+ys.length) * bytes≤140737488355328) (hm:xs.length+ys.length≤maxLen) :
    ∃ v' w',(Builtin.append_ #[T,T] t #[v,vx]).run P w=.ok v' w'∧Chg [v] w w'∧(∀ b,Qj v'=some b→Qj v=some b∨w.heap.size≤b)∧Own e (v'::L) w' v' (xs++ys):=by
  obtain ⟨i,h1,h2,h3,h4,h5,h6⟩:=hi.ex
  obtain ⟨av,capv,hv,_⟩:=hown.shape
  obtain ⟨cells,ho,hel⟩:=hown
  rcases hs with ⟨a0,rfl,rfl⟩ | ⟨b,off,cap,cur,e',fz,rfl,hblk,hA,hcap,hcm,hsz,hely⟩
  · refine ⟨v,w,?_,Chg.refl _ _,fun b hb=>.inl hb,?_⟩
    · subst hv
      have hle:xs.length≤capv:=by
        rcases ho.2 with ⟨hh,h0⟩ | ⟨g,cap,cur,hh,_,_,h4,_⟩
        · omega
        · cases hh;exact h4
      have hnot:∀ q,P.underlying T=some q→(match q with | .int _=>true | _=>false)=false:=by intro q hq;rw [hu] at hq;cases hq;rfl
      simp [Builtin.append_,run_underlying hu,sizeOf,typeInfo,h1,Builtin.lenOf,Builtin.firstCells,hle]
      have hl0:∀ a:Addr,(loadCells a 0).run P w=.ok #[] w:=fun a=>run_loadCells_list (P:=P) w a [] (fun j v hv=>by simp at hv)
      cases av<;>cases a0<;>simp [storeCells,hl0]
    · rw [List.append_nil];exact ⟨cells,ho,hel⟩
  · have hnl:(((cur.toList.drop off).take (ys.length * Rep.n α))).length=ys.length * Rep.n α:=hely.1
    have hbase:(0:Nat)≤w.heap.size:=Nat.zero_le _
    obtain ⟨v',w',hr,ho',hg,_⟩:=run_append_own (P:=P) w 0 T t e i zz (Rep.n α) bytes hu h1 h4 h2 h3 h5 h6 v xs.length cells ho ⟨b,off,none⟩ ys.length cap ((cur.toList.drop off).take (ys.length * Rep.n α)) hnl
      (fun j u hu=>by
        rw [Yq]
        have hj:j < ys.length * Rep.n α:=by
          rcases Nat.lt_or_ge j (ys.length * Rep.n α) with h | h
          · exact h
          · rw [List.getElem?_eq_none (by rw [hnl];exact h)] at hu;cases hu
        rw [List.getElem?_take_of_lt hj,List.getElem?_drop] at hu
        simp [World.cell?,hblk,← hu])
      hely.cells1 hm hb hbase
    have hc:Chg [v] w w':=Chg.of_grown hg
    have hnews:∀ j u,((cur.toList.drop off).take (ys.length * Rep.n α))[j]?=some u→w.cell? ((⟨b,off,none⟩:Addr).add j)=some u:=fun j u hu=>by
      rw [Yq]
      have hj:j < ys.length * Rep.n α:=by
        rcases Nat.lt_or_ge j (ys.length * Rep.n α) with h | h
        · exact h
        · rw [List.getElem?_eq_none (by rw [hnl];exact h)] at hu;cases hu
      rw [List.getElem?_take_of_lt hj,List.getElem?_drop] at hu
      simp [World.cell?,hblk,← hu]
    have hbl:∀ b,Qj v'=some b→Qj v=some b∨w.heap.size≤b:=by
      intro k hk
      rcases ho.2 with ⟨hh,h0⟩ | ⟨g,cap',cur',hh,_,hg',h4',_,hcs,htake⟩
      · have hown2:w.ownsRow w.heap.size e (Rep.n α) v xs.length cells:=⟨ho.1,.inl ⟨hh,h0⟩⟩
        obtain ⟨v2,w2,hr2,ho2,_⟩:=run_append_own (P:=P) w w.heap.size T t e i zz (Rep.n α) bytes hu h1 h4 h2 h3 h5 h6 v xs.length cells hown2 ⟨b,off,none⟩ ys.length cap _ hnl hnews hely.cells1 hm hb (Nat.le_refl _)
        rw [hr] at hr2
        cases hr2
        have hw:v'.ownBlock=some k:=by
          rcases ho2.2 with ⟨hh,_⟩ | ⟨g2,_,_,hh,_⟩<;>subst hh
          · cases hk
          · exact hk
        exact .inr (ho2.lt k hw).1
      · subst hh
        by_cases hroom:xs.length+ys.length≤cap'
        · have hr2:=run_append_room (P:=P) w T t e i hu h1 g xs.length cap' cur' hg' ⟨b,off,none⟩ ys.length cap _ (by rw [h2];exact hnl) hnews hely.cells1 hroom (by rw [h2,hnl,hcs,← Nat.add_mul];exact Nat.mul_le_mul_right _ hroom)
          rw [hr] at hr2
          cases hr2
          exact .inl hk
        · have holds:∀ j u,cells[j]?=some u→w.cell? ((⟨g,0,none⟩:Addr).add j)=some u:=World.ownsRow.cells ho (g:=g) rfl
          have hr2:=run_append_grow (P:=P) w T t e i zz hu h1 h4 ⟨g,0,none⟩ xs.length cap' cells (by rw [h2];exact ho.1) holds ⟨b,off,none⟩ ys.length cap _ (by rw [h2];exact hnl) hnews (by omega) (by unfold maxLen at hm;omega) (growslice_fits (by omega) (by rw [h3];exact hb))
          rw [hr] at hr2
          cases hr2
          right
          have:w.heap.size=k:=by simpa [Qj] using hk
          omega
    refine ⟨v',w',hr,hc,hbl,?_⟩
    have st:Stepp (v::L) w (v'::L) w':=Stepp.swap hc hbl
    exact ⟨cells++_,by simpa using ho',(hel.step st).append (Elems.step st hely)⟩

theorem Qvy {α : Type} [Rep α] {e : TypeId} {bytes : Nat} {zz : Value} {L : List Value} {v vx : Value} {xs ys : List α} {K : Value → World → Prop} {aT : Array TypeId}
    (hu:P.underlying T=some (.slice e)) (hi:EInfo P e (Rep.n α) bytes zz) (hT:aT=#[T,T]) (hx:Qk n ρ x=v) (hy:Qk n ρ y=vx) (hown:Own e (v::L) w v xs) (hs:SlRd (v::L) w vx ys)
    (hb:(xs.length+ys.length) * bytes≤140737488355328) (hm:xs.length+ys.length≤maxLen)
    (h:∀ v' w',Chg [v] w w'→(∀ b,Qj v'=some b→Qj v=some b∨w.heap.size≤b)→Own e (v'::L) w' v' (xs++ys)→K v' w'):Eff P ⟨d,.call ⟨.builtin .append,#[x,y],aT⟩,t,p,af,gu⟩ n ρ w K:=by
  subst hT
  have e0:execOp (Qk n ρ) ⟨d,.call ⟨.builtin .append,#[x,y],#[T,T]⟩,t,p,af,gu⟩=(Builtin.append_ #[T,T] t #[v,vx] >>= fun v=>Pure.pure (Next.value v)):=by
    simp [execOp,resolve,invoke,builtin,hx,hy]
  refine YE (by rw [e0];exact Xu (Qsl hu _ _ _)) fun w1 e1=>?_
  rw [e0]
  obtain ⟨v',w',hr,hc,hbl,ho⟩:=Qrb (P:=P) (t:=t) hu hi (hown.step (Stepp.ext e1) e1 (fun _ _=>Avoids.nil _)) (hs.step (Stepp.ext e1)) hb hm
  simp only [Sem.run_bind,hr,Result.andThen,Sem.run_pure,effR]
  refine h v' w' ((e1.mono (fun _ h=>by cases h)).trans hc) (fun b hb=>(hbl b hb).imp id fun h=>Nat.le_trans e1.size h) ho

end
end Go.Gw

end
section
set_option linter.unusedSectionVars false
namespace Go.Gw
open Go

section
variable {P:Program} [JD P] {n:Nat} {ρ:Env} {w:World}
variable {d:Option Nat} {t T U:TypeId} {p:String} {af:Array Edge} {gu:Option (Nat×Bool)} {x y z:Operand}

theorem SlRd.ext {α:Type} [Rep α] {L:List Value} {w w':World} {v:Value} {xs:List α} (h:SlRd L w v xs) (e:Ext w w'):SlRd L w' v xs:=h.step (Stepp.ext e)
theorem At.ext' {w w':World} {a:Addr} {cs:List Value} (h:At w a cs) (e:Ext w w'):At w' a cs:=At.ext e h
theorem Own.ext {α:Type} [Rep α] {e:TypeId} {L:List Value} {w w':World} {v:Value} {xs:List α} (h:Own e L w v xs) (c:Ext w w'):Own e L w' v xs:=h.step (Stepp.ext c) c (fun _ _=>Avoids.nil _)
theorem Z8 {α : Type} [Rep α] {e : TypeId} {L : List Value} {w2 : World} {v : Value} {xs : List α} {k : IntKind} {i : Int} {el : α} (hu : P.underlying T = some (.slice e)) (hs : Q3 P e (Rep.n α)) (hown : Own e L w2 v xs)
    (hel:idx xs i=some el) (hx:Qk n ρ x=v) (hy:Qk n ρ y=.int k i):Yl P n ρ ⟨d,.indexAddr T x y,t,p,af,gu⟩ w (.pointer (some (QY v i.toNat (Rep.n α)))):=by
  obtain ⟨h0,h1,_⟩:=Yr hel
  obtain ⟨cells,ho,_⟩:=hown
  rcases ho.2 with ⟨_,h⟩ | ⟨g,cap,cur,rfl,_⟩
  · omega
  · have h2:i < (xs.length:Int):=by omega
    exact X0 (Xu (Qgu _ _ _)) fun w1 _=>by simp [execOp,hx,hy,Instr.indexAt,asIntOf,run_underlying hu,h0,h2,X4 hs,QY]

theorem Own.at {α:Type} [Rep α] {e:TypeId} {L:List Value} {v:Value} {xs:List α} {i:Int} {el:α} (hown:Own e L w v xs) (hel:idx xs i=some el):∃ cs,At w (QY v i.toNat (Rep.n α)) cs∧Rep.rd L w cs el:=by
  obtain ⟨h0,h1,h2⟩:=Yr hel
  obtain ⟨cells,ho,hE⟩:=hown
  rcases ho.2 with ⟨_,h⟩ | ⟨g,cap,cur,rfl,_,hg,h4,h5,hcs,htake⟩
  · omega
  · refine ⟨_,?_,hE.2 _ el h2⟩
    simp only [QY,Yq,Nat.zero_add]
    refine At.of_block hg fun j u hu=>?_
    have hj:j < Rep.n α:=by
      rcases Nat.lt_or_ge j (Rep.n α) with h | h
      · exact h
      · rw [List.getElem?_eq_none (by simp;omega)] at hu;cases hu
    rw [List.getElem?_take_of_lt hj,List.getElem?_drop,← htake] at hu
    have hlt:i.toNat * Rep.n α+j < xs.length * Rep.n α:=by
      have:(i.toNat+1) * Rep.n α≤xs.length * Rep.n α:=Nat.mul_le_mul_right _ h1
      rw [Nat.succ_mul] at this;omega
    rw [List.getElem?_take_of_lt hlt] at hu
    rw [← Array.getElem?_toList,← hu]

theorem Qkm {e : TypeId} {size g m cap : Nat} : ∀ (vs : List Value) (off i : Nat) (cells : List Value) (w : World), w.ownsRow 0 e size (.slice (some ⟨g, 0, none⟩) m cap) m cells → off + i + vs.length ≤ cells.length → (∀ v ∈ vs, v.oneCell' = true) →
    ∃ w',(storeCells ⟨g,off,none⟩ vs i).run P w=.ok () w'∧w'.ownsRow 0 e size (.slice (some ⟨g,0,none⟩) m cap) m (X9 cells (off+i) vs)∧w.grownBy w' (some g)
  | [],off,i,cells,w,ho,_,_=>⟨w,rfl,ho,⟨rfl,rfl,rfl,Nat.le_refl _,fun _ _ _=>rfl⟩⟩
  | v::vs,off,i,cells,w,ho,hl,h1=>by
    have hlt:off+i < cells.length:=by simp at hl;omega
    have hc:w.cell? ⟨g,off+i,none⟩=some cells[off+i]:=by
      have:=World.ownsRow.cells ho (g:=g) rfl (off+i) _ (List.getElem?_eq_getElem hlt)
      rwa [Yq,Nat.zero_add] at this
    have hfz:w.frozen? ⟨g,off+i,none⟩=false:=by
      rcases ho.2 with ⟨h,_⟩ | ⟨g',cap',cur,h,_,hg,_⟩
      · cases h
      · cases h;simp [World.frozen?,hg]
    obtain ⟨ho1,hg1⟩:=World.ownsRow.stored (w:=w) (e:=e) (size:=size) (base:=0) ho (off+i) v
    obtain ⟨w',hr,ho2,hg2⟩:=Qkm vs off (i+1) (cells.set (off+i) v) (w.setCell ⟨g,off+i,none⟩ v) ho1 (by simp at hl ⊢;omega) (fun u hu=>h1 u (List.mem_cons_of_mem _ hu))
    refine ⟨w',?_,ho2,⟨hg2.os.trans hg1.os,hg2.tape.trans hg1.tape,hg2.output.trans hg1.output,Nat.le_trans hg1.size hg2.size,fun k hk hne=>(hg2.block k (Nat.lt_of_lt_of_le hk hg1.size) hne).trans (hg1.block k hk hne)⟩⟩
    have hst:(store ((⟨g,off,none⟩:Addr).add i) v).run P w=.ok () (w.setCell ⟨g,off+i,none⟩ v):=by
      have:=h1 v (List.mem_cons_self ..)
      rw [Yq]
      cases v<;>simp [Value.oneCell'] at this<;>simp [store,Sem.run,hc,hfz]
    simp only [storeCells,Sem.run_bind,hst,Result.andThen]
    exact hr

theorem Qri (vs:List Value):∀ (cs:List Value) (k:Nat),(X9 cs k vs).length=cs.length:=by
  induction vs with
  | nil=>intro cs k;rfl
  | cons v vs ih=>intro cs k;simp [X9,ih]

theorem Qrk (vs:List Value):∀ (cells:List Value) (a b k:Nat),k+vs.length≤b→((X9 cells (a+k) vs).drop a).take b=X9 ((cells.drop a).take b) k vs:=by
  induction vs with
  | nil=>intro cells a b k _;rfl
  | cons v vs ih =>
    intro cells a b k hk
    simp only [X9]
    have h1:k+1+vs.length≤b:=by simp at hk;omega
    rw [Nat.add_assoc,ih (cells.set (a+k) v) a b (k+1) h1]
    congr 1
    rw [List.drop_set,if_neg (by omega),List.take_set,Nat.add_sub_cancel_left]

theorem Qrj (vs:List Value):∀ (cells:List Value) (a b k:Nat),(a+b≤k∨k+vs.length≤a)→((X9 cells k vs).drop a).take b=(cells.drop a).take b:=by
  induction vs with
  | nil=>intro cells a b k _;rfl
  | cons v vs ih =>
    intro cells a b k hk
    simp only [X9]
    rw [ih _ a b (k+1) (by simp at hk;omega)]
    rw [List.drop_set]
    split
    · rfl
    · rw [List.take_set,List.set_eq_of_length_le]
      simp;simp at hk;omega

theorem Qwj {α : Type} [Rep α] {e : TypeId} {L : List Value} {v : Value} {xs : List α} {i : Int} {el y' : α} {off : Nat} {u : Value} {K : Value → World → Prop} (hs : Q3 P T u.cells.size) (hown : Own e L w v xs) (hv : v ∈ L) (hel : idx xs i = some el)
    (hx:Qk n ρ x=.pointer (some ((QY v i.toNat (Rep.n α)).add off))) (hy:Qk n ρ y=u) (hl:off+u.cells.size≤Rep.n α) (h1:∀ c∈u.cells.toList,c.oneCell'=true)
    (hset:∀ w' cs,Rep.rd L w' cs el→Rep.rd L w' (X9 cs off u.cells.toList) y')
    (h:∀ w',Chg [v] w w'→Own e L w' v (xs.set i.toNat y')→K undef w'):Eff P ⟨d,.store T x y,t,p,af,gu⟩ n ρ w K:=by
  refine YE (Qlb (Qla _ _ _)) fun w1 e1=>?_
  replace hown:=hown.step (Stepp.ext e1) e1 (fun _ _=>Avoids.nil _)
  obtain ⟨h0,hi,h2⟩:=Yr hel
  obtain ⟨cells,ho,hE⟩:=hown
  rcases ho.2 with ⟨_,hh⟩ | ⟨g,cap,cur,rfl,_,hg,h4,h5,hcs,htake⟩
  · omega
  · have hlen : i.toNat * Rep.n α + off + 0 + u.cells.toList.length ≤ cells.length := by
      have:(i.toNat+1) * Rep.n α≤xs.length * Rep.n α:=Nat.mul_le_mul_right _ hi
      rw [Nat.succ_mul] at this
      rw [hE.1];simp;omega
    obtain ⟨w',hr,ho2,hg2⟩:=Qkm (P:=P) u.cells.toList (i.toNat * Rep.n α+off) 0 cells w1 ho hlen h1
    have hx':Qk n ρ x=.pointer (some ⟨g,i.toNat * Rep.n α+off,none⟩):=by rw [hx];simp [QY,Yq]
    have hst:(Instr.storeAt T (.pointer (some ⟨g,i.toNat * Rep.n α+off,none⟩)) u).run P w1=.ok () w':=by
      simp [Instr.storeAt,Instr.sureAddr,storeVar,X4 hs,hr]
    simp only [execOp,hx',hy,Sem.run_bind,hst,Result.andThen,Sem.run_pure,effR]
    have hc:Chg [Value.slice (some ⟨g,0,none⟩) xs.length cap] w1 w':=⟨hg2.os,hg2.tape,hg2.output,hg2.size,fun b hb hA=>hg2.block b hb (fun e=>hA _ (List.mem_singleton.2 rfl) (by cases e;rfl))⟩
    refine h w' ((e1.mono (fun _ h=>by cases h)).trans hc) ⟨_,by rw [List.length_set];exact ho2,?_⟩
    have hE':=hE.step (Qo hc hv)
    refine ⟨by rw [Qri,List.length_set];exact hE.1,fun j b hb=>?_⟩
    by_cases hj:j=i.toNat
    · subst hj
      rw [List.getElem?_set_self hi] at hb
      cases hb
      rw [Nat.add_zero,Qrk _ _ _ _ _ (by simpa using hl)]
      exact hset _ _ (hE'.2 _ _ h2)
    · rw [List.getElem?_set_ne (Ne.symm hj)] at hb
      rw [Nat.add_zero,Qrj]
      · exact hE'.2 _ _ hb
      · rcases Nat.lt_or_ge j i.toNat with hlt | hge
        · left
          have:(j+1) * Rep.n α≤i.toNat * Rep.n α:=Nat.mul_le_mul_right _ hlt
          rw [Nat.succ_mul] at this;omega
        · right
          have:(i.toNat+1) * Rep.n α≤j * Rep.n α:=Nat.mul_le_mul_right _ (by omega)
          rw [Nat.succ_mul] at this;simp;omega

/-! ### Cuts -/
def cut {α:Type} (xs:List α) (lo hi:Int):Option (List α):=if 0≤lo∧lo≤hi∧hi≤xs.length then some ((xs.take hi.toNat).drop lo.toNat) else none

theorem ZV {α:Type} {xs ys:List α} {lo hi:Int} (h:cut xs lo hi=some ys):0≤lo∧lo≤hi∧hi≤xs.length∧ys=(xs.take hi.toNat).drop lo.toNat:=by
  unfold cut at h
  split at h
  · rename_i hc;exact ⟨hc.1,hc.2.1,hc.2.2,by cases h;rfl⟩
  · cases h

def Q7 (v:Value) (lo hi k:Nat):Value:=match v with
  | .slice a _ c=>.slice (if c=lo then a else a.map (·.add (lo * k))) (hi - lo) (c - lo)
  | v=>v

theorem SlRd.cut {α:Type} [Rep α] {L:List Value} {w:World} {v:Value} {xs ys:List α} {lo hi:Int} (hs:SlRd L w v xs) (hc:cut xs lo hi=some ys):SlRd L w (Q7 v lo.toNat hi.toNat (Rep.n α)) ys:=by
  obtain ⟨h0,h1,h2,rfl⟩:=ZV hc
  rcases hs with ⟨a0,rfl,rfl⟩ | ⟨b,off,cap,cur,e,fz,rfl,hb,hA,h4,h5,h6,h7⟩
  · have:hi=0:=by simp at h2;omega
    subst this
    have:lo=0:=by omega
    subst this
    exact .inl ⟨a0,by simp [Q7],by simp⟩
  · have hlen:((xs.take hi.toNat).drop lo.toNat).length=hi.toNat - lo.toNat:=by simp;omega
    have elem:∀ off',off'=off+lo.toNat * Rep.n α→Elems L w ((cur.toList.drop off').take (((xs.take hi.toNat).drop lo.toNat).length * Rep.n α)) ((xs.take hi.toNat).drop lo.toNat):=by
      rintro off' rfl
      have hmul:(lo.toNat+(hi.toNat - lo.toNat)) * Rep.n α≤xs.length * Rep.n α:=Nat.mul_le_mul_right _ (by omega)
      have hmul2:xs.length * Rep.n α≤cap * Rep.n α:=Nat.mul_le_mul_right _ h4
      rw [Nat.add_mul] at hmul
      refine ⟨by rw [hlen];simp;omega,fun j b hb=>?_⟩
      have hj:j < hi.toNat - lo.toNat:=by
        rcases Nat.lt_or_ge j (hi.toNat - lo.toNat) with h | h
        · exact h
        · rw [List.getElem?_eq_none (by rw [hlen];exact h)] at hb;cases hb
      have hb':xs[lo.toNat+j]?=some b:=by
        rw [List.getElem?_drop,List.getElem?_take_of_lt (by omega)] at hb;exact hb
      have:=h7.2 _ b hb'
      have hj2:(j+1) * Rep.n α≤(hi.toNat - lo.toNat) * Rep.n α:=Nat.mul_le_mul_right _ hj
      rw [Nat.succ_mul] at hj2
      have hj3:(lo.toNat+j) * Rep.n α=lo.toNat * Rep.n α+j * Rep.n α:=Nat.add_mul ..
      rw [List.drop_take,List.take_take,List.drop_drop] at this ⊢
      rw [hlen]
      rw [Nat.min_eq_left (by omega)] at this ⊢
      rw [hj3,← Nat.add_assoc] at this
      exact this
    by_cases hcl:cap=lo.toNat
    · refine .inr ⟨b,off,cap - lo.toNat,cur,e,fz,by simp [Q7,hcl,hlen],hb,hA,by rw [hlen];omega,by omega,?_,?_⟩
      · have:(cap - lo.toNat) * Rep.n α≤cap * Rep.n α:=Nat.mul_le_mul_right _ (by omega)
        omega
      · have hz:((xs.take hi.toNat).drop lo.toNat)=[]:=List.eq_nil_of_length_eq_zero (by rw [hlen];omega)
        rw [hz];simp [Elems]
    · refine .inr ⟨b,off+lo.toNat * Rep.n α,cap - lo.toNat,cur,e,fz,by simp [Q7,hcl,hlen,Yq],hb,hA,by rw [hlen];omega,by omega,?_,elem _ rfl⟩
      have:(lo.toNat+(cap - lo.toNat)) * Rep.n α≤cap * Rep.n α:=Nat.mul_le_mul_right _ (by omega)
      rw [Nat.add_mul] at this
      omega

theorem Qbs {k:IntKind} {i:Int} {y:Nat} {c:BoundsCode} (h0:0≤i) (h1:i≤y):(Instr.sliceBound (.int k i) y c).run P w=.ok i.toNat w:=by
  simp [Instr.sliceBound,asIntOf,h0,h1]

theorem Qhe {α : Type} [Rep α] {e : TypeId} {L : List Value} {w2 : World} {v : Value} {xs ys : List α} {k' : IntKind} {hi : Int} (hu : P.underlying T = some (.slice e)) (hz : Q3 P e (Rep.n α)) (hs : SlRd L w2 v xs) (hc : cut xs 0 hi = some ys)
    (hx:Qk n ρ x=v) (hh:Qk n ρ z=.int k' hi):Yl P n ρ ⟨d,.slice T x none (some z) none,t,p,af,gu⟩ w (Q7 v 0 hi.toNat (Rep.n α)):=by
  obtain ⟨h0,h1,h2,_⟩:=ZV hc
  obtain ⟨a,cap,hv,_⟩:=hs.shape
  have hcap:xs.length≤cap:=by
    rcases hs with ⟨a0,rfl,rfl⟩ | ⟨b,off,cap',cur,e,fz,rfl,hb,hA,h4,_⟩
    · exact Nat.zero_le _
    · cases hv;exact h4
  subst hv
  refine X0 (Xu (ZQ _ _ _ _ _)) fun w1 _=>?_
  have e1:=Qbs (P:=P) (w:=w1) (k:=k') (i:=hi) (y:=cap) (c:=.sliceAcap) (by omega) (by omega)
  simp [execOp,hx,hh,Instr.sliceAt,Instr.slice,run_underlying hu,Instr.sliceBounds,e1,X4 hz,Q7]

theorem Qli {α : Type} [Rep α] {e : TypeId} {L : List Value} {w2 : World} {v : Value} {xs ys : List α} {k : IntKind} {lo : Int} (hu : P.underlying T = some (.slice e)) (hz : Q3 P e (Rep.n α)) (hs : SlRd L w2 v xs) (hc : cut xs lo xs.length = some ys)
    (hx:Qk n ρ x=v) (hl:Qk n ρ y=.int k lo):Yl P n ρ ⟨d,.slice T x (some y) none none,t,p,af,gu⟩ w (Q7 v lo.toNat ((xs.length:Int).toNat) (Rep.n α)):=by
  obtain ⟨h0,h1,h2,_⟩:=ZV hc
  obtain ⟨a,cap,hv,_⟩:=hs.shape
  subst hv
  refine X0 (Xu (ZQ _ _ _ _ _)) fun w1 _=>?_
  have e2:=Qbs (P:=P) (w:=w1) (k:=k) (i:=lo) (y:=xs.length) (c:=.sliceB) h0 (by omega)
  simp [execOp,hx,hl,Instr.sliceAt,Instr.slice,run_underlying hu,Instr.sliceBounds,e2,X4 hz,Q7]

/-! ### Structs and arrays built; made slices -/
omit [JD P] in
structure BI (P:Program) (T:TypeId) (places:List (Nat×Nat)) (zero:List Value):Prop where
  ex:∃ it fs z,P.info? T=some it∧P.underlying T=some (.struct fs)∧it.zero=some z∧z.cells=zero.toArray∧fs.toList.mapM (fun f=>(P.info? f.type).map fun i=>(f.offset,i.size))=some places

theorem QKs {cells zero : List Value} {places : List (Nat × Nat)} {parts : Array (Nat × Operand)} (hB : BI P T places zero) (h : Zs (places[·]?) zero (parts.toList.map fun q => (q.1, Qk n ρ q.2)) = some cells) :
    Yl P n ρ ⟨d,.build T parts,t,p,af,gu⟩ w (.agg cells.toArray):=by
  obtain ⟨it,fs,z,h1,h2,h3,h4,h5⟩:=hB.ex
  have h':P.built T (parts.map fun (i,x)=>(i,Qk n ρ x)).toList=some cells.toArray:=by
    simp only [Program.built,h1,h2,h3,h5,h4]
    have:=Qfe _ _ _ h
    rw [Array.toList_map]
    simpa using this
  exact X0 (Xu (Qsn _ _)) fun w1 _=>by simp only [execOp,Sem.run_bind,run_build w1 T _ _ h',Result.andThen,Sem.run_pure]

theorem Jr {e m sz : Nat} {k : IntKind} {i : Int} {a : Addr} (hu : P.underlying T = some (.array m e)) (hs : Q3 P e sz) (h0 : 0 ≤ i) (h1 : i < m) (hx : Qk n ρ x = .pointer (some a)) (hy : Qk n ρ y = .int k i) :
    Yl P n ρ ⟨d,.indexAddr T x y,t,p,af,gu⟩ w (.pointer (some (a.add (i.toNat * sz)))):=by
  exact X0 (Xu (Qgu _ _ _)) fun w1 _=>by simp [execOp,hx,hy,Instr.indexAt,asIntOf,run_underlying hu,Instr.sureAddr,h0,h1,X4 hs]

end
end Go.Gw

end
section
set_option linter.unusedSectionVars false
namespace Go.Gw
open Go

abbrev w64 (x:Int):Int:=IntKind.wrap .i64 x

theorem Qv {α:Type} {b:Bool} {x y z:α} (hb:b=true) (h:cond b x y=z):x=z:=by subst hb;exact h
theorem Qx {α:Type} {b:Bool} {x y z:α} (hb:b=false) (h:cond b x y=z):y=z:=by subst hb;exact h
theorem Qe {α β:Type} {e:Option α} {f:α→Option β} {r:β} (h:e.bind f=some r):∃ x,e=some x∧f x=some r:=by
  cases e with
  | none=>cases h
  | some x=>exact ⟨x,rfl,h⟩

noncomputable def loop {σ β:Type} (step:σ→Option (σ⊕β)) (s:σ):Option β :=
  match Xs step 300 s with
  | some o=>some o
  | none=>open Classical in if h:∃ o,∃ k,Xs step k s=some o then some (Classical.choose h) else none

theorem Qit {σ β:Type} {step:σ→Option (σ⊕β)}:∀ {k k':Nat} {s:σ} {o o':β},Xs step k s=some o→Xs step k' s=some o'→o=o'
  | 0,_,_,_,_,h,_=>by cases h
  | _+1,0,_,_,_,_,h=>by cases h
  | k+1,k'+1,s,o,o',h,h'=>by
    simp only [Xs] at h h'
    cases hs:step s with
    | none=>simp [hs] at h
    | some x =>
      cases x with
      | inl s'=>simp only [hs] at h h';exact Qit h h'
      | inr b=>simp only [hs] at h h';cases h;cases h';rfl

theorem loop_iff {σ β:Type} {step:σ→Option (σ⊕β)} {s:σ} {o:β}:loop step s=some o↔∃ k,Xs step k s=some o:=by
  classical
  unfold loop
  cases h3:Xs step 300 s with
  | some o'=>exact ⟨fun h=>⟨300,h3.trans h⟩,fun ⟨k,hk⟩=>congrArg some (Qit h3 hk)⟩
  | none =>
    constructor
    · intro h
      simp only at h
      split at h
      · rename_i hh
        obtain ⟨k,hk⟩:=Classical.choose_spec hh
        cases h
        exact ⟨k,hk⟩
      · cases h
    · rintro ⟨k,hk⟩
      have hh:∃ o,∃ k,Xs step k s=some o:=⟨o,k,hk⟩
      simp only
      rw [dif_pos hh]
      obtain ⟨k',hk'⟩:=Classical.choose_spec hh
      rw [Qit hk' hk]

theorem QBp {σ β:Type} {step:σ→Option (σ⊕β)} {s s':σ} (h:step s=some (.inl s')):loop step s=loop step s':=by
  apply Option.ext
  intro o
  rw [loop_iff,loop_iff]
  constructor
  · rintro ⟨k,hk⟩
    cases k with
    | zero=>cases hk
    | succ k=>simp only [Xs,h] at hk;exact ⟨k,hk⟩
  · rintro ⟨k,hk⟩
    exact ⟨k+1,by simp only [Xs,h];exact hk⟩
theorem Qpc {σ β:Type} {step:σ→Option (σ⊕β)} {s:σ} {o:β} (h:step s=some (.inr o)):loop step s=some o:=by
  rw [loop_iff];exact ⟨1,by simp only [Xs,h]⟩

section
variable {P:Program} [JD P] {n:Nat} {q:Post} {ρ:Env} {w:World}

theorem Que {c : Code} {σ β : Type} {step : σ → Option (σ ⊕ β)} {s : σ} {o : β} (I : σ → Env → World → Prop) (h : loop step s = some o) (h0 : I s ρ w)
    (round:∀ s ρ w,I s ρ w→∀ x,step s=some x→(∀ y,x=.inr y→y=o)→WC P n c ⟨fun ρ w=>∃ s',x=.inl s'∧I s' ρ w,q.ex,q.ret⟩ ρ w):WC P n (.loop c) q ρ w:=by
  obtain ⟨k,hk⟩:=loop_iff.1 h
  refine Qls (step:=step) (k:=k) (s:=s) (o:=o) I hk h0 fun s ρ w hI=>⟨fun s' hs=>?_,fun hs=>?_⟩
  · exact (round s ρ w hI _ hs (fun y hy=>by cases hy)).mono (fun ρ w ⟨s'',he,hI'⟩=>by cases he;exact hI') (fun _ _ _ h=>h) (fun _ _ h=>h)
  · exact (round s ρ w hI _ hs (fun y hy=>by cases hy;rfl)).mono (fun ρ w ⟨s'',he,_⟩=>by cases he) (fun _ _ _ h=>h) (fun _ _ h=>h)

theorem Qel {ops : Array Oper} {K : Env → World → Prop} {o : Oper} {os : List Oper} (b : Bool) (V : Value) (hw : Xx ops o n ρ = b) (ht : b = true → Eff P o n ρ w (fun v w' => v = V ∧ Ext w w'))
    (h:∀ w',Ext w w'→T0 P n ops K os (Xb ρ o.dst (gd b V)) w'):T0 P n ops K (o::os) ρ w :=
  Qty b hw (fun hb=>(ht hb).mono fun v w' ⟨hv,he⟩=>by have:=h w' he;rw [Qz hb] at this;rw [hv];exact this)
    (fun hb=>by have:=h w (Chg.refl _ _);rw [Qfh hb] at this;exact this)
section ev
variable {x1 x2 x3 x4 x5 x6 x7 x8:Operand} {v1 v2 v3 v4 v5 v6 v7 v8:Value}
theorem Jz:((#[]:Array Operand).map (Qk n ρ)).toList=[]:=by simp
theorem QH (h1:Qk n ρ x1=v1):(#[x1].map (Qk n ρ)).toList=[v1]:=by subst h1;simp
theorem QU (h1:Qk n ρ x1=v1) (h2:Qk n ρ x2=v2):(#[x1,x2].map (Qk n ρ)).toList=[v1,v2]:=by subst h1 h2;simp
theorem ZE (h1:Qk n ρ x1=v1) (h2:Qk n ρ x2=v2) (h3:Qk n ρ x3=v3):(#[x1,x2,x3].map (Qk n ρ)).toList=[v1,v2,v3]:=by subst h1 h2 h3;simp
theorem Zr (h1:Qk n ρ x1=v1) (h2:Qk n ρ x2=v2) (h3:Qk n ρ x3=v3) (h4:Qk n ρ x4=v4):(#[x1,x2,x3,x4].map (Qk n ρ)).toList=[v1,v2,v3,v4]:=by subst h1 h2 h3 h4;simp
theorem ev5 (h1:Qk n ρ x1=v1) (h2:Qk n ρ x2=v2) (h3:Qk n ρ x3=v3) (h4:Qk n ρ x4=v4) (h5:Qk n ρ x5=v5):(#[x1,x2,x3,x4,x5].map (Qk n ρ)).toList=[v1,v2,v3,v4,v5]:=by subst h1 h2 h3 h4 h5;simp
end ev

variable {d:Option Nat} {t T U:TypeId} {p:String} {af:Array Edge} {gu:Option (Nat×Bool)} {x y z:Operand}
theorem Qr {fs : Array Field} {i : Nat} {f : Field} {a : Addr} {v : Value} (off : Nat) (hu : P.underlying T = some (.struct fs)) (hf : fs[i]? = some f) (ho : f.offset = off) (hs : ∃ k, Q3 P f.type (k + 1)) (hx : Qk n ρ x = .pointer (some a))
    (hv:v=.pointer (some (a.add off))):Yl P n ρ ⟨d,.fieldAddr T x i,t,p,af,gu⟩ w v:=by
  subst hv;subst ho
  obtain ⟨k,hs⟩:=hs
  exact QLb hu hf hs hx

theorem Xq {a:Addr} {cs:List Value} (hT:Aggr P T cs.length) (hat:At w a cs):∀ w1,Rel w w1→(loadVar T a).run P w1=.ok (.agg cs.toArray) w1:=fun w1 r=>by
  simp [loadVar,Qkl hT,X4 hT.size,run_loadCells_list w1 a cs (At.ext r.ext hat).2]
def LtL (L:List Value) (w:World):Prop:=∀ h∈L,∀ b,Qj h=some b→b < w.heap.size
theorem LtL.chg {L H:List Value} {w w':World} (h:LtL L w) (c:Chg H w w'):LtL L w':=fun x hx b hb=>Nat.lt_of_lt_of_le (h x hx b hb) c.size
theorem LtL.nil (w:World):LtL [] w:=fun _ h=>by cases h
theorem LtL.cons {L:List Value} {w:World} {v:Value} (h:LtL L w) (hv:∀ b,Qj v=some b→b < w.heap.size):LtL (v::L) w:=fun x hx b hb=>by
  rcases List.mem_cons.1 hx with rfl | hx
  · exact hv b hb
  · exact h x hx b hb

theorem Own.sub {α:Type} [Rep α] {e:TypeId} {L L':List Value} {v:Value} {xs:List α} (h:Own e L w v xs) (hs:∀ x∈L',x∈L):Own e L' w v xs:=h.step (Stepp.sub w hs) (Chg.refl [] w) (fun _ _=>Avoids.nil _)
theorem SlRd.sub {α:Type} [Rep α] {L L':List Value} {v:Value} {xs:List α} (h:SlRd L w v xs) (hs:∀ x∈L',x∈L):SlRd L' w v xs:=h.step (Stepp.sub w hs)
theorem Own.rdL {α:Type} [Rep α] {e:TypeId} {L L0:List Value} {w0:World} {v:Value} {xs:List α} (h:Own e L w v xs) (hs:∀ x∈L0,x∈L) (hL:LtL L0 w0) (hf:∀ b,Qj v=some b→w0.heap.size≤b):SlRd L0 w v xs :=
  (h.sub hs).rd (fun b hb x hx e=>by have:=hL x hx b e;have:=hf b hb;omega)
theorem Yb {v:Value} {b:Nat} (h:Qj v≠some b):Avoids [v] b:=fun x hx e=>by rcases List.mem_singleton.1 hx with rfl;exact h e
theorem QG {b b':Nat} (h:b'≠b):Avoids [.pointer (some ⟨b',0,none⟩)] b:=fun x hx e=>by rcases List.mem_singleton.1 hx with rfl;simp [Qj] at e;exact h e
end
end Go.Gw
namespace Go.Gw
section
variable {P:Program} [JD P] {n:Nat} {q:Post} {ρ:Env} {w:World}
theorem Xk {c : Code} {σ β : Type} {step : σ → Option (σ ⊕ β)} {s : σ} {o : β} (I : σ → Env → World → Prop) (h : loop step s = some o) (h0 : I s ρ w)
    (round:∀ s ρ w,I s ρ w→∀ x,step s=some x→(∀ y,x=.inr y→y=o)→∀ K:Env→World→Prop,(∀ s' ρ w,x=.inl s'→I s' ρ w→K ρ w)→WC P n c ⟨K,q.ex,q.ret⟩ ρ w):WC P n (.loop c) q ρ w :=
  Que I h h0 fun s ρ w hI x hx ho=>round s ρ w hI x hx ho _ fun s' _ _ he hI'=>⟨s',he,hI'⟩
theorem Xn {α:Type} {a:α} {L L':List α} (h:a∈L') (hs:∀ x∈L,x∈L'):∀ x∈a::L,x∈L':=fun x hx=>by
  rcases List.mem_cons.1 hx with rfl | hx
  · exact h
  · exact hs x hx
theorem Xd {α:Type} (L:List α):∀ x∈L,x∈L:=fun _ h=>h
theorem QM {α:Type} {a:α} {L L':List α} (hs:∀ x∈L,x∈L'):∀ x∈L,x∈a::L':=fun x hx=>List.mem_cons_of_mem _ (hs x hx)
abbrev AgV (l:List Value):Value:=.agg l.toArray
theorem Qq {α:Type} {a:α} {L:List α}:a∈a::L:=List.mem_cons_self ..
theorem QZ {α:Type} {a b:α} {L:List α} (h:a∈L):a∈b::L:=List.mem_cons_of_mem _ h
theorem Yd {α:Type} {x0 x1:α} {L:List α}:x1∈x0::x1::L:=QZ Qq
theorem XU {α:Type} {x0 x1 x2:α} {L:List α}:x2∈x0::x1::x2::L:=QZ (QZ Qq)
theorem YF {α:Type} {x0 x1 x2 x3:α} {L:List α}:x3∈x0::x1::x2::x3::L:=QZ (QZ (QZ Qq))
theorem ZL {α:Type} {x0 x1 x2:α} {L:List α}:∀ x∈L,x∈x0::x1::x2::L:=QM (QM (QM (Xd _)))
theorem Qsf {α:Type} {x0 x1 x2 x3 x4:α} {L:List α}:∀ x∈x0::x1::x3::x4::L,x∈x0::x1::x2::x3::x4::L:=Xn Qq (Xn (QZ Qq) (Xn (QZ (QZ (QZ Qq))) (Xn (QZ (QZ (QZ (QZ Qq)))) (QM (QM (QM (QM (QM (Xd _)))))))))
theorem JO {α:Type} {x0 x1 x2:α} {L:List α}:∀ x∈x0::x2::L,x∈x0::x1::x2::L:=Xn Qq (Xn (QZ (QZ Qq)) (QM (QM (QM (Xd _)))))
theorem Z3 {α:Type} {x0 x1 x2 x3:α} {L:List α}:∀ x∈x0::x2::x3::L,x∈x0::x1::x2::x3::L:=Xn Qq (Xn (QZ (QZ Qq)) (Xn (QZ (QZ (QZ Qq))) (QM (QM (QM (QM (Xd _)))))))
theorem Qbw {α:Type} {x0 x1 x2 x3 x4:α} {L:List α}:∀ x∈x0::x2::x3::x4::L,x∈x0::x1::x2::x3::x4::L:=Xn Qq (Xn (QZ (QZ Qq)) (Xn (QZ (QZ (QZ Qq))) (Xn (QZ (QZ (QZ (QZ Qq)))) (QM (QM (QM (QM (QM (Xd _)))))))))
theorem Qai {α:Type} {x0:α} {L:List α}:∀ x∈x0::L,x∈x0::L:=Xn Qq (QM (Xd _))
theorem ZJ {α:Type} {x0 x1:α} {L:List α}:∀ x∈x0::L,x∈x0::x1::L:=Xn Qq (QM (QM (Xd _)))
theorem Xe {α:Type} {x0 x1:α} {L:List α}:∀ x∈x1::x0::L,x∈x0::x1::L:=Xn (QZ Qq) (Xn Qq (QM (QM (Xd _))))
theorem Yt {α:Type} {x0 x1 x2:α} {L:List α}:∀ x∈x1::x0::x2::L,x∈x0::x1::x2::L:=Xn (QZ Qq) (Xn Qq (Xn (QZ (QZ Qq)) (QM (QM (QM (Xd _))))))
theorem ZK {α:Type} {x0 x1 x2 x3:α} {L:List α}:∀ x∈x1::x0::x2::x3::L,x∈x0::x1::x2::x3::L:=Xn (QZ Qq) (Xn Qq (Xn (QZ (QZ Qq)) (Xn (QZ (QZ (QZ Qq))) (QM (QM (QM (QM (Xd _))))))))
theorem Qaj {α:Type} {x0 x1 x2 x3 x4:α} {L:List α}:∀ x∈x1::x0::x2::x3::x4::L,x∈x0::x1::x2::x3::x4::L:=Xn (QZ Qq) (Xn Qq (Xn (QZ (QZ Qq)) (Xn (QZ (QZ (QZ Qq))) (Xn (QZ (QZ (QZ (QZ Qq)))) (QM (QM (QM (QM (QM (Xd _))))))))))
theorem XZ {α:Type} {x0 x1 x2:α} {L:List α}:∀ x∈x1::x2::L,x∈x0::x1::x2::L:=Xn (QZ Qq) (Xn (QZ (QZ Qq)) (QM (QM (QM (Xd _)))))
theorem Qdw {α:Type} {x0 x1 x2 x3:α} {L:List α}:∀ x∈x1::x2::x3::L,x∈x0::x1::x2::x3::L:=Xn (QZ Qq) (Xn (QZ (QZ Qq)) (Xn (QZ (QZ (QZ Qq))) (QM (QM (QM (QM (Xd _)))))))
theorem Qbx {α:Type} {x0 x1 x2 x3 x4:α} {L:List α}:∀ x∈x1::x2::x3::x4::L,x∈x0::x1::x2::x3::x4::L:=Xn (QZ Qq) (Xn (QZ (QZ Qq)) (Xn (QZ (QZ (QZ Qq))) (Xn (QZ (QZ (QZ (QZ Qq)))) (QM (QM (QM (QM (QM (Xd _)))))))))
theorem X2 {α:Type} {x0 x1:α} {L:List α}:∀ x∈x1::L,x∈x0::x1::L:=Xn (QZ Qq) (QM (QM (Xd _)))
theorem Qgq {α:Type} {x0 x1 x2:α} {L:List α}:∀ x∈x2::x0::x1::L,x∈x0::x1::x2::L:=Xn (QZ (QZ Qq)) (Xn Qq (Xn (QZ Qq) (QM (QM (QM (Xd _))))))
end
end Go.Gw
namespace Go.Gw
def XD {β μ:Type} (o:β⊕μ) (f:μ→Option β):Option β:=match o with | .inl b=>some b | .inr m=>f m
theorem XS {β μ:Type} {a:β} {f:μ→Option β} {x:β} (h:XD (.inl a) f=some x):some a=some x:=h
theorem X3 {β μ:Type} {a:μ} {f:μ→Option β} {x:β} (h:XD (.inr a) f=some x):f a=some x:=h
section
variable {α:Type} [Rep α] {w w':World}
theorem ZY {e:TypeId} {L:List Value} {v:Value} {xs:List α} {b:Nat} (h:Own e L w v xs) (hb:w.heap.size≤b):Qj v≠some b:=fun e=>by have:=h.blk_lt e;omega
theorem Y0 {v v':Value} {b:Nat} {cs:List Value} {T:TypeId} (hbl:∀ b,Qj v'=some b→Qj v=some b∨w.heap.size≤b) (h:Qj v≠some b) (hB:Box w b cs T):Qj v'≠some b:=fun e=>by
  rcases hbl b e with h1 | h1
  · exact h h1
  · have:=hB.lt;omega
theorem Qvu {e:TypeId} {L:List Value} {u v v':Value} {xs:List α} (hbl:∀ b,Qj v'=some b→Qj v=some b∨w.heap.size≤b) (h:∀ b,Qj u=some b→Qj v≠some b) (hu:Own e L w u xs):∀ b,Qj u=some b→Qj v'≠some b:=fun b hb e=>by
  rcases hbl b e with h1 | h1
  · exact h b hb h1
  · have:=hu.blk_lt hb;omega
theorem Yj {v v':Value} {w0:World} (hbl:∀ b,Qj v'=some b→Qj v=some b∨w.heap.size≤b) (h:∀ b,Qj v=some b→w0.heap.size≤b) (hs:w0.heap.size≤w.heap.size):∀ b,Qj v'=some b→w0.heap.size≤b:=fun b hb=>by
  rcases hbl b hb with h1 | h1
  · exact h b h1
  · omega
theorem Zo (b:Nat) {p:Prop} (h:Qj (.slice none 0 0)=some b):p:=by cases h
theorem Quz {v:Value} {u:Value} (h:∀ b,Qj u=some b→Qj v≠some b):∀ b,Qj u=some b→Avoids [v] b:=fun b hb=>Yb (h b hb)
theorem XR {v:Value} {b:Nat} (h:Qj v≠some b):∀ k,Qj v=some k→Avoids [.pointer (some ⟨b,0,none⟩)] k:=fun k hk=>QG (fun e=>h (by rw [e];exact hk))
theorem Yi {v:Value} {w0:World} (h:Ext w0 w) (c:Chg [v] w w') (hf:∀ b,Qj v=some b→w0.heap.size≤b):Ext w0 w':=Chg.fresh h c (fun x hx n e=>by rcases List.mem_singleton.1 hx with rfl;exact hf n e)
theorem QL {b:Nat} {w0:World} (h:Ext w0 w) (c:Chg [.pointer (some ⟨b,0,none⟩)] w w') (hf:w0.heap.size≤b):Ext w0 w':=Chg.fresh h c (fun x hx n e=>by rcases List.mem_singleton.1 hx with rfl;simp [Qj] at e;omega)
end
end Go.Gw
namespace Go.Gw
def app {α:Type} (xs ys:List α):Option (List α):=if xs.length+ys.length≤1073741824 then some (xs++ys) else none
theorem Qlz {α:Type} {xs ys zs:List α} (h:app xs ys=some zs):xs.length+ys.length≤1073741824∧zs=xs++ys:=by
  unfold app at h
  split at h
  · rename_i hc;exact ⟨hc,by cases h;rfl⟩
  · cases h
def quo (a b:Int):Option Int:=if b=0 then none else some (w64 (a.tdiv b))
def rem (a b:Int):Option Int:=if b=0 then none else some (a.tmod b)
theorem QFr {a b c:Int} (h:quo a b=some c):b≠0∧c=w64 (a.tdiv b):=by
  unfold quo at h;split at h
  · cases h
  · rename_i hb;exact ⟨hb,by cases h;rfl⟩
section
variable {P:Program} [JD P] {n:Nat} {ρ:Env} {w:World}
variable {d:Option Nat} {t T U:TypeId} {p:String} {af:Array Edge} {gu:Option (Nat×Bool)} {x y z:Operand}
theorem QLj {a b c:Int} (h:quo a b=some c) (hx:Qk n ρ x=.int .i64 a) (hy:Qk n ρ y=.int .i64 b):Yl P n ρ ⟨d,.binOp .quo T x y U,t,p,af,gu⟩ w (.int .i64 c):=by
  obtain ⟨hb,rfl⟩:=QFr h;exact QLi hb hx hy
theorem Qwb {α : Type} [Rep α] {e : TypeId} {bytes : Nat} {z : Value} {L : List Value} {len : Nat} {xs : List α} {cells : List Value} {parts : Array (Nat × Operand)} {K : Value → World → Prop}
    (hu:P.underlying T=some (.slice e)) (hi:EInfo P e (Rep.n α) bytes z) (hsmall:Nat.ble (len * Rep.n α) 16777216=true)
    (hf:Zs (fun i=>some (i * Rep.n α,Rep.n α)) (JT z.cells.toList (len * Rep.n α)) (parts.toList.map fun q=>(q.1,Qk n ρ q.2))=some cells)
    (hel:Elems L w cells xs) (hl:xs.length=len) (hlt:LtL L w)
    (h:∀ b w',Ext w w'→SlRd L w' (.slice (some ⟨b,0,none⟩) len len) xs→K (.slice (some ⟨b,0,none⟩) len len) w'):Eff P ⟨d,.buildSlice T len parts,t,p,af,gu⟩ n ρ w K :=
  Qii hu hi hsmall hf hel hl fun b w' hb he ho _=>h b w' he (ho.rd fun k hk x hx e=>by
    have:=hlt x hx k e
    simp [Qj] at hk;omega)

theorem Qwa {α : Type} [Rep α] {e : TypeId} {bytes : Nat} {z : Value} {L : List Value} {len : Nat} {xs : List α} {cells : List Value} {parts : Array (Nat × Operand)} {K : Value → World → Prop}
    (hu:P.underlying T=some (.slice e)) (hi:EInfo P e (Rep.n α) bytes z) (hsmall:Nat.ble (len * Rep.n α) 16777216=true)
    (hf:Zs (fun i=>some (i * Rep.n α,Rep.n α)) (JT z.cells.toList (len * Rep.n α)) (parts.toList.map fun q=>(q.1,Qk n ρ q.2))=some cells)
    (hel:Elems L w cells xs) (hl:xs.length=len)
    (h:∀ v w',Ext w w'→(∀ b,Qj v=some b→w.heap.size≤b)→Own e (v::L) w' v xs→K v w'):Eff P ⟨d,.buildSlice T len parts,t,p,af,gu⟩ n ρ w K :=
  Qii hu hi hsmall hf hel hl fun _ w' hb he _ ho=>h _ w' he (fun k hk=>by simp [Qj] at hk;omega) ho

theorem Ja {α : Type} [Rep α] {e : TypeId} {bytes : Nat} {zz : Value} {L : List Value} {v vx : Value} {xs ys zs : List α} {K : Value → World → Prop} {aT : Array TypeId}
    (hu:P.underlying T=some (.slice e)) (hi:EInfo P e (Rep.n α) bytes zz) (hbm:Nat.ble bytes 65536=true) (hT:aT=#[T,T]) (hx:Qk n ρ x=v) (hy:Qk n ρ y=vx) (hown:Own e (v::L) w v xs) (hs:SlRd (v::L) w vx ys)
    (hz:app xs ys=some zs)
    (h:∀ v' w',Chg [v] w w'→(∀ b,Qj v'=some b→Qj v=some b∨w.heap.size≤b)→Own e (v'::L) w' v' zs→K v' w'):Eff P ⟨d,.call ⟨.builtin .append,#[x,y],aT⟩,t,p,af,gu⟩ n ρ w K:=by
  obtain ⟨hb,rfl⟩:=Qlz hz
  have hbm:bytes≤65536:=by simpa using hbm
  have:(xs.length+ys.length) * bytes≤1073741824 * 65536:=Nat.mul_le_mul hb hbm
  exact Qvy hu hi hT hx hy hown hs (by omega) (by unfold maxLen;omega) h
end
end Go.Gw
namespace Go.Gw
section
variable {P:Program} [JD P] {n:Nat} {ρ:Env} {w:World}
variable {d:Option Nat} {t T U:TypeId} {p:String} {af:Array Edge} {gu:Option (Nat×Bool)} {x y z:Operand}
theorem J5 {a b:Bool} (ha:a=true) (hb:b=true):(a&&b)=true:=by subst ha;subst hb;rfl
theorem YR {b:Bool} (h:b=false):(!b)=true:=by subst h;rfl
theorem Q6 {α : Type} [Rep α] {e : TypeId} {L : List Value} {w2 : World} {v : Value} {xs : List α} {aT : Array TypeId} (hT : aT[0]? = some T) (hu : P.underlying T = some (.slice e)) (hs : SlRd L w2 v xs) (hx : Qk n ρ x = v) :
    Yl P n ρ ⟨d,.call ⟨.builtin .len,#[x],aT⟩,t,p,af,gu⟩ w (.int .i64 xs.length):=by
  obtain ⟨a,c,rfl,_⟩:=hs.shape;exact Qcd hT hu hx
theorem Qcc {α : Type} [Rep α] {e e' : TypeId} {L : List Value} {w2 : World} {v : Value} {xs : List α} {aT : Array TypeId} (hT : aT[0]? = some T) (hu : P.underlying T = some (.slice e)) (hs : Own e' L w2 v xs) (hx : Qk n ρ x = v) :
    Yl P n ρ ⟨d,.call ⟨.builtin .len,#[x],aT⟩,t,p,af,gu⟩ w (.int .i64 xs.length):=by
  obtain ⟨a,c,rfl,_⟩:=hs.shape;exact Qcd hT hu hx

omit [JD P] in
structure ZI (P:Program) (T:TypeId) (cs:List Value):Prop where
  ex:∃ i z,P.info? T=some i∧i.zero=some z∧z.cells.toList=cs
theorem Xa {cs : List Value} {K : Value → World → Prop} (hZ : ZI P T cs)
    (h:∀ b w',w.heap.size≤b→Ext w w'→Box w' b cs T→K (.pointer (some ⟨b,0,none⟩)) w'):Eff P ⟨d,.alloc T,t,p,af,gu⟩ n ρ w K:=by
  obtain ⟨i,z,hi,hz,hc⟩:=hZ.ex
  exact Qvw hi hz fun b w' hb he hB=>h b w' hb he (hc▸hB)
theorem Xl {v : Value} {cs : List Value} {K : Value → World → Prop} (hx : Qk n ρ x = v) (hc : v.cells.toList = cs)
    (h:∀ b w',w.heap.size≤b→Ext w w'→Box w' b cs T→K (.pointer (some ⟨b,0,none⟩)) w'):Eff P ⟨d,.box T x,t,p,af,gu⟩ n ρ w K :=
  Qvz hx fun b w' hb he hB=>h b w' hb he (hc▸hB)
theorem Ze {v : Value} {b off : Nat} {cs cs' vs : List Value} {T' : TypeId} {K : Value → World → Prop} {k : Nat} (hs : Q3 P T k) (hv : v.cells.toList = vs) (hk : vs.length = k) (hx : Qk n ρ x = .pointer (some ⟨b, off, none⟩)) (hy : Qk n ρ y = v)
    (hb:Box w b cs T') (hl:Nat.ble (off+k) cs.length=true) (h1:∀ u∈vs,u.oneCell'=true) (hcs:X9 cs off vs=cs')
    (h:∀ w',Chg [.pointer (some ⟨b,0,none⟩)] w w'→Box w' b cs' T'→K undef w'):Eff P ⟨d,.store T x y,t,p,af,gu⟩ n ρ w K:=by
  subst hv;subst hk;subst hcs
  have e:v.cells.toList.length=v.cells.size:=by simp
  exact Qwi (by rw [← e];exact hs) hx hy hb (by rw [← e];simpa using hl) h1 h
theorem QE:∀ u∈([]:List Value),u.oneCell'=true:=fun _ h=>by cases h
theorem Qh {v:Value} {vs:List Value} (h:v.oneCell'=true) (hs:∀ u∈vs,u.oneCell'=true):∀ u∈v::vs,u.oneCell'=true:=fun u hu=>by
  rcases List.mem_cons.1 hu with rfl | hu
  · exact h
  · exact hs u hu
theorem SlRd.one1 {α:Type} [Rep α] {L:List Value} {v:Value} {xs:List α} (h:SlRd L w v xs):v.oneCell'=true:=by obtain ⟨a,c,rfl,_⟩:=h.shape;rfl
theorem Own.one1 {α:Type} [Rep α] {e:TypeId} {L:List Value} {v:Value} {xs:List α} (h:Own e L w v xs):v.oneCell'=true:=by obtain ⟨a,c,rfl,_⟩:=h.shape;rfl
theorem Qu {L:List Value} {w':World} {b:Nat} (he:Ext w w') (hb:w.heap.size≤b):Stepp L w (.pointer (some ⟨b,0,none⟩)::L) w':=Stepp.add _ he (fun k hk=>by simp [Qj] at hk;omega)
theorem Yp {L:List Value} (w:World):Stepp L w (.slice none 0 0::L) w:=Stepp.add _ (Chg.refl [] _) (fun _ h=>by cases h)
theorem Q5 {b b':Nat} {cs:List Value} {T:TypeId} (h:Box w b' cs T) (hb:w.heap.size≤b):b≠b':=fun e=>by have:=h.lt;omega
theorem Q0 {w0:World} {b:Nat} (h:Ext w0 w) (hb:w.heap.size≤b):w0.heap.size≤b:=Nat.le_trans h.size hb

section
variable {i1 i2 i3 i4 i5 i6 i7 i8 i9:Nat} {x1 x2 x3 x4 x5 x6 x7 x8 x9:Operand} {v1 v2 v3 v4 v5 v6 v7 v8 v9:Value}
end
end
end Go.Gw

end
