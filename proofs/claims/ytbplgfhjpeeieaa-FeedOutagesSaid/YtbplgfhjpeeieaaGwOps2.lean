/- Laws of the walk. Condition: each theorem says its own. -/
import Derived.Test.YtbplgfhjpeeieaaGwMem
import Derived.Test.YtbplgfhjpeeieaaGwCj5
import Derived.Laws.MakeOwn
import Derived.KernelRfl
set_option linter.unusedVariables false
set_option linter.unusedSimpArgs false
set_option linter.unusedSectionVars false
section
set_option linter.unusedSectionVars false
namespace Go.Gw
open Go

section
variable {P : Program} [JD P] {n : Nat} {ρ : Env} {w : World}
variable {d : Option Nat} {t T U : TypeId} {p : String} {af : Array Edge} {gu : Option (Nat × Bool)} {x y z : Operand}


theorem Qai {o : Oper} {v : Value} (ht : Tame P (execOp (QC n ρ) o)) (h : ∀ w1,Ext w w1 → (execOp (QC n ρ) o).run P w1 = .ok (.value v) w1) : Yl P n ρ o w v:=⟨ht,fun w1 r=>h w1 r.ext⟩
theorem JE {o : Oper} {K : Value → World → Prop} (ht : Tame P (execOp (QC n ρ) o)) (h : ∀ w1,Ext w w1 → effR P K ((execOp (QC n ρ) o).run P w1)) : Eff P o n ρ w K:=⟨ht,.inr fun w1 r=>h w1 r.ext⟩
theorem QUt {fs : Array Field} {i : Nat} {f : Field} {k : Nat} {a : Addr} (hu : P.underlying T = some (.struct fs)) (hf : fs[i]? = some f) (hs : XV P f.type (k + 1)) (hx : QC n ρ x = .pointer (some a)) :
    Yl P n ρ ⟨d,.fieldAddr T x i,t,p,af,gu⟩ w (.pointer (some (a.add f.offset))):=Yr fun w es=>by
  refine (ZR (a:=Value.pointer (some (a.add f.offset))) (w':=w) (es':=es) ?_).trans rfl
  rw [hx]
  refine (ZR (Qky hu)).trans ?_
  simp only [hf,Instr.sureAddr,pure_bind]
  refine (ZR (a:=a.add f.offset) ?_).trans rfl
  exact (ZR (QQm hs)).trans rfl

theorem Qq {a : Addr} {v : Value} {cs : List Value} (hT : ZJ P T) (hx : QC n ρ x = .pointer (some a)) (hat : At w a (v :: cs)) : Yl P n ρ ⟨d,.load T x,t,p,af,gu⟩ w v:=Qai (Zs (QBo _ _)) fun w1 e1=>by
  have h0:=(At.ext e1 hat).2 0 v rfl
  have e : a.add 0 = a:=by simp [Addr.add]
  rw [e] at h0
  simp [execOp,hx,Instr.loadAt,Instr.sureAddr,loadVar,Qzp hT,h0]

theorem QI {a : Addr} {cs : List Value} (hT : Aggr P T cs.length) (hx : QC n ρ x = .pointer (some a)) (hat : At w a cs) : Yl P n ρ ⟨d,.load T x,t,p,af,gu⟩ w (.agg cs.toArray):=Qai (Zs (QBo _ _)) fun w1 e1=>by
  simp [execOp,hx,Instr.loadAt,Instr.sureAddr,loadVar,Qzq hT,Qad hT.size,run_loadCells_list w1 a cs (At.ext e1 hat).2]

def QD (v : Value) (i k : Nat) : Addr:=match v with | .slice (some a) _ _=>a.add (i * k) | _=>default

def idx {α : Type} (xs : List α) (i : Int) : Option α:=if 0 ≤ i then xs[i.toNat]? else none

theorem Qcd {α : Type} {xs : List α} {i : Int} {x : α} (h : idx xs i = some x) : 0 ≤ i ∧ i.toNat < xs.length ∧ xs[i.toNat]? = some x:=by
  unfold idx at h
  split at h
  · rename_i h0; exact ⟨h0,(List.getElem?_eq_some_iff.1 h).1,h⟩
  · cases h

theorem Q7 {α : Type} [Rep α] {e : TypeId} {L : List Value} {w2 : World} {v : Value} {xs : List α} {k : IntKind} {i : Int} {el : α} (hu : P.underlying T = some (.slice e)) (hs : XV P e (Rep.n α)) (hsl : SlRd L w2 v xs)
    (hel : idx xs i = some el) (hx : QC n ρ x = v) (hy : QC n ρ y = .int k i) : Yl P n ρ ⟨d,.indexAddr T x y,t,p,af,gu⟩ w (.pointer (some (QD v i.toNat (Rep.n α)))):=by
  obtain ⟨h0,h1,_⟩:=Qcd hel
  rcases hsl with ⟨_,_,rfl⟩ | ⟨b,off,cap,cur,e',fz,rfl,_⟩
  · simp at h1
  · have h2 : i < (xs.length : Int):=by omega
    exact Qai (Zs (QBl _ _ _)) fun w1 _=>by simp [execOp,hx,hy,Instr.indexAt,asIntOf,run_underlying hu,h0,h2,Qad hs,QD]

theorem SlRd.at {α : Type} [Rep α] {L : List Value} {v : Value} {xs : List α} {i : Int} {el : α} (hsl : SlRd L w v xs) (hel : idx xs i = some el) : ∃ cs,At w (QD v i.toNat (Rep.n α)) cs ∧ Rep.rd L w cs el:=by
  obtain ⟨h0,h1,h2⟩:=Qcd hel
  rcases hsl with ⟨_,_,rfl⟩ | ⟨b,off,cap,cur,e',fz,rfl,hb,_,h4,_,h6,h7⟩
  · simp at h1
  · refine ⟨_,?_,h7.2 _ el h2⟩
    simp only [QD,YU]
    refine At.of_block hb fun j u hu=>?_
    have hj : j < Rep.n α:=by
      rcases Nat.lt_or_ge j (Rep.n α) with h | h
      · exact h
      · rw [List.getElem?_eq_none (by simp; omega)] at hu; cases hu
    rw [List.getElem?_take_of_lt hj,List.getElem?_drop] at hu
    have hlt : i.toNat * Rep.n α + j < xs.length * Rep.n α:=by
      have : (i.toNat + 1) * Rep.n α ≤ xs.length * Rep.n α:=Nat.mul_le_mul_right _ h1
      rw [Nat.succ_mul] at this; omega
    rw [List.getElem?_take_of_lt hlt,List.getElem?_drop] at hu
    rw [← Array.getElem?_toList,← hu,Nat.add_assoc]

/-! ### New blocks -/
theorem QEi {v : Value} {K : Value → World → Prop} (hx : QC n ρ x = v)
    (h : ∀ b w',w.heap.size ≤ b → Ext w w' → Box w' b v.cells.toList T → K (.pointer (some ⟨b,0,none⟩)) w') : Eff P ⟨d,.box T x,t,p,af,gu⟩ n ρ w K:=JE (Zs (QTb _ _)) fun w1 e1=>by
  simp only [execOp,hx]
  have : (Instr.box T v).run P w1 = .ok (.pointer (some ⟨w1.heap.size,0,none⟩)) { w1 with heap:=w1.heap.push (.cells v.cells T (0,0)) }:=by
    simp [Instr.box,newVar,newRow,newObj]; rfl
  simp only [Sem.run_bind,this,Result.andThen,Sem.run_pure,effR]
  exact h _ _ e1.size (e1.trans (Ext.alloc ..)) (by simp [Box])

theorem QEf {z : Value} {i : TypeInfo} {K : Value → World → Prop} (hi : P.info? T = some i) (hz : i.zero = some z)
    (h : ∀ b w',w.heap.size ≤ b → Ext w w' → Box w' b z.cells.toList T → K (.pointer (some ⟨b,0,none⟩)) w') : Eff P ⟨d,.alloc T,t,p,af,gu⟩ n ρ w K:=JE (Zs (QSy _)) fun w1 e1=>by
  simp only [execOp]
  have : (Instr.alloc T true (.tuple #[])).run P w1 = .ok (.pointer (some ⟨w1.heap.size,0,none⟩)) { w1 with heap:=w1.heap.push (.cells z.cells T (0,0)) }:=by
    simp [Instr.alloc,zeroValue,typeInfo,hi,hz,newVar,newRow,newObj]; rfl
  simp only [Sem.run_bind,this,Result.andThen,Sem.run_pure,effR]
  exact h _ _ e1.size (e1.trans (Ext.alloc ..)) (by simp [Box])

/-! ### Stores -/
def YY (cs : List Value) (off : Nat) : List Value → List Value
  | []=>cs
  | v :: vs=>YY (cs.set off v) (off + 1) vs

theorem QDt (w : World) (b off : Nat) (v : Value) : Chg [.pointer (some ⟨b,0,none⟩)] w (w.setCell ⟨b,off,none⟩ v) :=
  ⟨rfl,rfl,rfl,by simp [World.setCell],fun k _ hA=>by
    have hne : b ≠ k:=fun e=>hA _ (List.mem_singleton.2 rfl) (by simp [Qh,e])
    simp [World.setCell,Array.getElem?_modify,hne]⟩

theorem Qzs (T : TypeId) (b : Nat) : ∀ (vs : List Value) (off i : Nat) (cs : List Value) (w : World), Box w b cs T → off + i + vs.length ≤ cs.length → (∀ v ∈ vs, v.oneCell' = true) →
    ∃ w',(storeCells ⟨b,off,none⟩ vs i).run P w = .ok () w' ∧ Box w' b (YY cs (off + i) vs) T ∧ Chg [.pointer (some ⟨b,0,none⟩)] w w' ∧ w'.heap.size = w.heap.size
  | [],off,i,cs,w,hb,_,_=>⟨w,rfl,hb,Chg.refl _ _,rfl⟩
  | v :: vs,off,i,cs,w,hb,hl,h1=>by
    have hlt : off + i < cs.length:=by simp at hl; omega
    have hc : w.cell? ⟨b,off + i,none⟩ = some cs[off + i]:=by simp [World.cell?,show w.heap[b]? = _ from hb,hlt]
    have hfz : w.frozen? ⟨b,off + i,none⟩ = false:=by simp [World.frozen?,show w.heap[b]? = _ from hb]
    have hbox : Box (w.setCell ⟨b,off + i,none⟩ v) b (cs.set (off + i) v) T:=by
      have hb' : w.heap[b]? = some (.cells cs.toArray T (0,0)):=hb
      simp [Box,World.setCell,Array.getElem?_modify,hb']
    obtain ⟨w',hr,hb2,hc2,hs2⟩:=Qzs T b vs off (i + 1) (cs.set (off + i) v) (w.setCell ⟨b,off + i,none⟩ v) hbox (by simp at hl ⊢; omega) (fun u hu=>h1 u (List.mem_cons_of_mem _ hu))
    refine ⟨w',?_,hb2,(QDt ..).trans hc2,by rw [hs2]; simp [World.setCell]⟩
    have hst : (store ((⟨b,off,none⟩ : Addr).add i) v).run P w = .ok () (w.setCell ⟨b,off + i,none⟩ v):=by
      have:=h1 v (List.mem_cons_self ..)
      rw [YU]
      cases v <;> simp [Value.oneCell'] at this <;> simp [store,Sem.run,hc,hfz]
    simp only [storeCells,Sem.run_bind,hst,Result.andThen]
    exact hr

theorem QEk {v : Value} {b off : Nat} {cs : List Value} {T' : TypeId} {K : Value → World → Prop} (hs : XV P T v.cells.size) (hx : QC n ρ x = .pointer (some ⟨b, off, none⟩)) (hy : QC n ρ y = v)
    (hb : Box w b cs T') (hl : off + v.cells.size ≤ cs.length) (h1 : ∀ u ∈ v.cells.toList,u.oneCell' = true)
    (h : ∀ w',Chg [.pointer (some ⟨b,0,none⟩)] w w' → Box w' b (YY cs off v.cells.toList) T' → K undef w') : Eff P ⟨d,.store T x y,t,p,af,gu⟩ n ρ w K:=JE (Qri (Qrh _ _ _)) fun w1 e1=>by
  obtain ⟨w',hr,hb2,hc2,_⟩:=Qzs (P:=P) T' b v.cells.toList off 0 cs w1 (hb.ext e1) (by simpa using hl) h1
  simp only [execOp,hx,hy]
  have : (Instr.storeAt T (.pointer (some ⟨b,off,none⟩)) v).run P w1 = .ok () w':=by
    simp [Instr.storeAt,Instr.sureAddr,storeVar,Qad hs,hr]
  simp only [Sem.run_bind,this,Result.andThen,Sem.run_pure,effR]
  exact h w' ((e1.mono (fun _ h=>by cases h)).trans hc2) (by simpa using hb2)

/-! ### Calls -/
theorem Qx {f : FuncId} {fn : Func} {c : Code} {xs : Array Operand} {aT : Array TypeId} {args : List Value} {K Φ : Value → World → Prop} (hf : P.funcs[f]? = some fn) (hname : (fn.name == "runtime.NumGoroutine") = false) (hb : fn.body = some c)
    (ha : (xs.map (QC n ρ)).toList = args) (hc : CallsTo P f args w Φ) (h : ∀ v w',Φ v w' → K v w') : Eff P ⟨d,.call ⟨.value (.func f),xs,aT⟩,t,p,af,gu⟩ n ρ w K:=by
  have e : xs.map (QC n ρ) = args.toArray:=by rw [← ha]
  have this : ∀ w es,(execOp (QC n ρ) ⟨d,.call ⟨.value (.func f),xs,aT⟩,t,p,af,gu⟩).runT P w es = (.ok (.enter f args.toArray) w,es):=fun w es=>by
    refine Eq.trans ?_ (Qqf (args:=args.toArray) hf hname hb)
    simp only [execOp,resolve,Deferred.ofValue,invoke,e,QC,pure_bind,Array.empty_append,Array.append_empty]
  refine ⟨.still _ this,.inr fun w1 r=>?_⟩
  rw [show (execOp (QC n ρ) ⟨d,.call ⟨.value (.func f),xs,aT⟩,t,p,af,gu⟩).run P w1 = _ from by rw [← Sem.runT_fst P _ w1 #[],this]]
  exact CallsJ.rely (CallsTo.mono hc h) r

end
end Go.Gw

end
section
set_option linter.unusedSectionVars false
namespace Go.Gw
open Go

section
variable {P : Program} [JD P] {n : Nat} {ρ : Env} {w : World}
variable {d : Option Nat} {t T U : TypeId} {p : String} {af : Array Edge} {gu : Option (Nat × Bool)} {x y z : Operand}

omit [JD P] in
structure EInfo (P : Program) (e : TypeId) (k bytes : Nat) (z : Value) : Prop where
  ex : ∃ i,P.info? e = some i ∧ i.size = k ∧ i.bytes = bytes ∧ i.zero = some z ∧ z.cells.size = k ∧ 0 < k

omit [JD P] in
theorem EInfo.size {e : TypeId} {k bytes : Nat} {z : Value} (h : EInfo P e k bytes z) : XV P e k:=by
  obtain ⟨i,hi,hk,_⟩:=h.ex; exact ⟨i,hi,hk⟩

theorem Own.made {α : Type} [Rep α] {e : TypeId} {L L' : List Value} {xs : List α} {cells : List Value} (h : Elems L w cells xs) (hcap : xs.length ≤ maxLen) (st : Stepp L w L' { w with heap := w.heap.push (.cells cells.toArray e (0, 0)) }) :
    Own e L' { w with heap:=w.heap.push (.cells cells.toArray e (0,0)) } (.slice (some ⟨w.heap.size,0,none⟩) xs.length xs.length) xs:=by
  refine ⟨cells,⟨h.1,.inr ⟨w.heap.size,xs.length,cells.toArray,rfl,Nat.zero_le _,by simp,Nat.le_refl _,hcap,by simpa using h.1,?_⟩⟩,h.step st⟩
  rw [← h.1]; simp


/-! ### Filling, over lists -/
def JS (place : Nat → Option (Nat × Nat)) (cells : List Value) : List (Nat × Value) → Option (List Value)
  | []=>some cells
  | (i,v) :: rest =>
    match place i with
    | none=>none
    | some (off,size)=>bif Nat.beq v.cells.toList.length size && Nat.ble (off + v.cells.toList.length) cells.length then JS place (YY cells off v.cells.toList) rest else none

theorem QKb (vs : List Value) : ∀ (cs : Array Value) (off j : Nat),((vs.zipIdx j).foldl (fun (cs : Array Value) (q : Value × Nat)=>cs.setIfInBounds (off + q.2) q.1) cs) = (YY cs.toList (off + j) vs).toArray:=by
  induction vs with
  | nil=>intro cs off j; simp [YY]
  | cons v vs ih =>
    intro cs off j
    simp only [List.zipIdx_cons,List.foldl_cons,YY]
    rw [ih]
    simp [Nat.add_assoc]

theorem Qow {place : Nat → Option (Nat × Nat)} : ∀ (parts : List (Nat × Value)) (cells out : List Value),JS place cells parts = some out → Instr.fill place cells.toArray parts = some out.toArray
  | [],cells,out,h=>by simp [JS] at h; simp [Instr.fill,h]
  | (i,v) :: rest,cells,out,h=>by
    simp only [JS] at h
    simp only [Instr.fill]
    cases hp : place i with
    | none=>simp [hp] at h
    | some q =>
      obtain ⟨off,size⟩:=q
      simp only [hp] at h
      cases hb : (Nat.beq v.cells.toList.length size && Nat.ble (off + v.cells.toList.length) cells.length) with
      | false=>simp only [hb,cond_false] at h; cases h
      | true =>
        simp only [hb,cond_true] at h
        simp only [Bool.and_eq_true,Nat.beq_eq,Nat.ble_eq,Array.length_toList] at hb
        have h1 : ¬ (v.cells.size ≠ size || decide (off + v.cells.size > cells.toArray.size)) = true:=by simp; omega
        have h2:=QKb v.cells.toList cells.toArray off 0
        have h3 : v.cells.zipIdx.foldl (fun cs (c,j)=>cs.setIfInBounds (off + j) c) cells.toArray = (YY cells off v.cells.toList).toArray:=by
          rw [← Array.foldl_toList]
          simpa using h2
        simp only [h3]
        rw [if_neg h1]
        exact Qow rest _ _ h

def Qep (z : List Value) (k : Nat) : List Value:=(List.range k).map fun i=>z.getD (i % z.length) undef

theorem QVb (z : Array Value) (k : Nat) (h : 0 < z.size ∨ k = 0) : (Array.range k).map (z[· % z.size]!) = (Qep z.toList k).toArray:=by
  apply Array.ext'
  simp only [Array.toList_map,Array.toList_range,Qep]
  apply List.map_congr_left
  intro i hi
  rcases h with h | h
  · have:=Nat.mod_lt i h
    simp [List.getD,this]
  · subst h; simp at hi

theorem Qtc {α : Type} [Rep α] {e : TypeId} {bytes : Nat} {z : Value} {L : List Value} {len : Nat} {xs : List α} {cells : List Value} {parts : Array (Nat × Operand)} {K : Value → World → Prop}
    (hu : P.underlying T = some (.slice e)) (hi : EInfo P e (Rep.n α) bytes z) (hsmall : Nat.ble (len * Rep.n α) 16777216 = true)
    (hf' : JS (fun i=>some (i * Rep.n α,Rep.n α)) (Qep z.cells.toList (len * Rep.n α)) (parts.toList.map fun q=>(q.1,QC n ρ q.2)) = some cells)
    (hel : Elems L w cells xs) (hl : xs.length = len)
    (h : ∀ b w',w.heap.size ≤ b → Ext w w' → Own e L w' (.slice (some ⟨b,0,none⟩) len len) xs → Own e (.slice (some ⟨b,0,none⟩) len len :: L) w' (.slice (some ⟨b,0,none⟩) len len) xs → K (.slice (some ⟨b,0,none⟩) len len) w') : Eff P ⟨d,.buildSlice T len parts,t,p,af,gu⟩ n ρ w K:=JE (Zs (QTd _ _ _)) fun w1 e1=>by
  obtain ⟨i,h1,h2,h3,h4,h5,h6⟩:=hi.ex
  have hsm : ¬ len * Rep.n α > 2 ^ 24:=by
    have : len * Rep.n α ≤ 16777216:=by simpa using hsmall
    omega
  have hcap : xs.length ≤ maxLen:=by
    have h7 : len * 1 ≤ len * Rep.n α:=Nat.mul_le_mul_left _ h6
    have : len * Rep.n α ≤ 16777216:=by simpa using hsmall
    unfold maxLen; omega
  have hf : Instr.fill (fun i=>some (i * Rep.n α,Rep.n α)) ((Array.range (len * Rep.n α)).map (z.cells[· % z.cells.size]!)) (parts.map fun q=>(q.1,QC n ρ q.2)).toList = some cells.toArray:=by
    rw [QVb z.cells _ (.inl (by omega)),Array.toList_map]
    exact Qow _ _ _ hf'
  have hz : (Array.map (fun q : Nat × Operand=>(q.1,QC n ρ q.2)) parts) = Array.map (fun (i,x)=>(i,QC n ρ x)) parts:=rfl
  have hr : (Instr.buildSlice T len (parts.map fun (i,x)=>(i,QC n ρ x))).run P w1 = .ok (.slice (some ⟨w1.heap.size,0,none⟩) len len) { w1 with heap:=w1.heap.push (.cells cells.toArray e (0,0)) }:=by
    rw [hz] at hf
    have hzv : (zeroValue e).run P w1 = .ok z w1:=by simp [zeroValue,typeInfo,h1,h4]
    by_cases h0 : len * Rep.n α = 0
    · have hl0 : len = 0:=by rcases Nat.mul_eq_zero.1 h0 with h | h; exact h; omega
      subst hl0
      have hf' : Instr.fill (fun i=>some (i * Rep.n α,Rep.n α)) #[] (parts.map fun (i,x)=>(i,QC n ρ x)).toList = some cells.toArray:=by rw [← hf]; congr 1; simp
      have e0 : (Array.map (fun x=>(#[] : Array Value)[x % (#[] : Array Value).size]!) (Array.range 0)) = #[]:=by simp
      simp only [Instr.buildSlice,Sem.run_bind,run_underlying hu,Result.andThen,Qad hi.size,Nat.zero_mul]
      rw [if_neg (by decide),if_pos trivial,Sem.run_bind,Sem.run_pure]
      simp only [Result.andThen,e0,hf']
      rfl
    · simp only [Instr.buildSlice,Sem.run_bind,run_underlying hu,Result.andThen,Qad hi.size,if_neg hsm,if_neg h0,hzv,Sem.run_pure]
      rw [hf]
      rfl
  simp only [execOp,Sem.run_bind,hr,Result.andThen,Sem.run_pure,effR]
  have hel:=hel.step (Stepp.ext (L:=L) e1)
  have o1:=Own.made (e:=e) hel hcap (Stepp.ext (Ext.alloc ..))
  have o2:=Own.made (e:=e) hel hcap (Stepp.add (.slice (some ⟨w1.heap.size,0,none⟩) len len) (Ext.alloc ..) (fun b hb=>by simp [Qh] at hb; omega))
  rw [hl] at o1 o2
  exact h _ _ e1.size (e1.trans (Ext.alloc ..)) o1 o2

theorem Qqi {α : Type} [Rep α] {e : TypeId} {bytes : Nat} {zz : Value} {L : List Value} {v vx : Value} {xs ys : List α}
    (hu : P.underlying T = some (.slice e)) (hi : EInfo P e (Rep.n α) bytes zz) (hown : Own e (v :: L) w v xs) (hs : SlRd (v :: L) w vx ys)
    (hb : (xs.length + ys.length) * bytes ≤ 140737488355328) (hm : xs.length + ys.length ≤ maxLen) :
    ∃ v' w',(Builtin.append_ #[T,T] t #[v,vx]).run P w = .ok v' w' ∧ Chg [v] w w' ∧ (∀ b,Qh v' = some b → Qh v = some b ∨ w.heap.size ≤ b) ∧ Own e (v' :: L) w' v' (xs ++ ys):=by
  obtain ⟨i,h1,h2,h3,h4,h5,h6⟩:=hi.ex
  obtain ⟨av,capv,hv,_⟩:=hown.shape
  obtain ⟨cells,ho,hel⟩:=hown
  rcases hs with ⟨a0,rfl,rfl⟩ | ⟨b,off,cap,cur,e',fz,rfl,hblk,hA,hcap,hcm,hsz,hely⟩
  · refine ⟨v,w,?_,Chg.refl _ _,fun b hb=>.inl hb,?_⟩
    · subst hv
      have hle : xs.length ≤ capv:=by
        rcases ho.2 with ⟨hh,h0⟩ | ⟨g,cap,cur,hh,_,_,h4,_⟩
        · omega
        · cases hh; exact h4
      have hnot : ∀ q,P.underlying T = some q → (match q with | .int _=>true | _=>false) = false:=by intro q hq; rw [hu] at hq; cases hq; rfl
      simp [Builtin.append_,run_underlying hu,sizeOf,typeInfo,h1,Builtin.lenOf,Builtin.firstCells,hle]
      have hl0 : ∀ a : Addr,(loadCells a 0).run P w = .ok #[] w:=fun a=>run_loadCells_list (P:=P) w a [] (fun j v hv=>by simp at hv)
      cases av <;> cases a0 <;> simp [storeCells,hl0]
    · rw [List.append_nil]; exact ⟨cells,ho,hel⟩
  · have hnl : (((cur.toList.drop off).take (ys.length * Rep.n α))).length = ys.length * Rep.n α:=hely.1
    have hbase : (0 : Nat) ≤ w.heap.size:=Nat.zero_le _
    obtain ⟨v',w',hr,ho',hg,_⟩:=run_append_own (P:=P) w 0 T t e i zz (Rep.n α) bytes hu h1 h4 h2 h3 h5 h6 v xs.length cells ho ⟨b,off,none⟩ ys.length cap ((cur.toList.drop off).take (ys.length * Rep.n α)) hnl
      (fun j u hu=>by
        rw [YU]
        have hj : j < ys.length * Rep.n α:=by
          rcases Nat.lt_or_ge j (ys.length * Rep.n α) with h | h
          · exact h
          · rw [List.getElem?_eq_none (by rw [hnl]; exact h)] at hu; cases hu
        rw [List.getElem?_take_of_lt hj,List.getElem?_drop] at hu
        simp [World.cell?,hblk,← hu])
      hely.cells1 hm hb hbase
    have hc : Chg [v] w w':=Chg.of_grown hg
    have hnews : ∀ j u,((cur.toList.drop off).take (ys.length * Rep.n α))[j]? = some u → w.cell? ((⟨b,off,none⟩ : Addr).add j) = some u:=fun j u hu=>by
      rw [YU]
      have hj : j < ys.length * Rep.n α:=by
        rcases Nat.lt_or_ge j (ys.length * Rep.n α) with h | h
        · exact h
        · rw [List.getElem?_eq_none (by rw [hnl]; exact h)] at hu; cases hu
      rw [List.getElem?_take_of_lt hj,List.getElem?_drop] at hu
      simp [World.cell?,hblk,← hu]
    have hbl : ∀ b,Qh v' = some b → Qh v = some b ∨ w.heap.size ≤ b:=by
      intro k hk
      rcases ho.2 with ⟨hh,h0⟩ | ⟨g,cap',cur',hh,_,hg',h4',_,hcs,htake⟩
      · have hown2 : w.ownsRow w.heap.size e (Rep.n α) v xs.length cells:=⟨ho.1,.inl ⟨hh,h0⟩⟩
        obtain ⟨v2,w2,hr2,ho2,_⟩:=run_append_own (P:=P) w w.heap.size T t e i zz (Rep.n α) bytes hu h1 h4 h2 h3 h5 h6 v xs.length cells hown2 ⟨b,off,none⟩ ys.length cap _ hnl hnews hely.cells1 hm hb (Nat.le_refl _)
        rw [hr] at hr2
        cases hr2
        have hw : v'.ownBlock = some k:=by
          rcases ho2.2 with ⟨hh,_⟩ | ⟨g2,_,_,hh,_⟩ <;> subst hh
          · cases hk
          · exact hk
        exact .inr (ho2.lt k hw).1
      · subst hh
        by_cases hroom : xs.length + ys.length ≤ cap'
        · have hr2:=run_append_room (P:=P) w T t e i hu h1 g xs.length cap' cur' hg' ⟨b,off,none⟩ ys.length cap _ (by rw [h2]; exact hnl) hnews hely.cells1 hroom (by rw [h2,hnl,hcs,← Nat.add_mul]; exact Nat.mul_le_mul_right _ hroom)
          rw [hr] at hr2
          cases hr2
          exact .inl hk
        · have holds : ∀ j u,cells[j]? = some u → w.cell? ((⟨g,0,none⟩ : Addr).add j) = some u:=World.ownsRow.cells ho (g:=g) rfl
          have hr2:=run_append_grow (P:=P) w T t e i zz hu h1 h4 ⟨g,0,none⟩ xs.length cap' cells (by rw [h2]; exact ho.1) holds ⟨b,off,none⟩ ys.length cap _ (by rw [h2]; exact hnl) hnews (by omega) (by unfold maxLen at hm; omega) (growslice_fits (by omega) (by rw [h3]; exact hb))
          rw [hr] at hr2
          cases hr2
          right
          have : w.heap.size = k:=by simpa [Qh] using hk
          omega
    refine ⟨v',w',hr,hc,hbl,?_⟩
    have st : Stepp (v :: L) w (v' :: L) w':=Stepp.swap hc hbl
    exact ⟨cells ++ _,by simpa using ho',(hel.step st).append (Elems.step st hely)⟩

theorem QEh {α : Type} [Rep α] {e : TypeId} {bytes : Nat} {zz : Value} {L : List Value} {v vx : Value} {xs ys : List α} {K : Value → World → Prop} {aT : Array TypeId}
    (hu : P.underlying T = some (.slice e)) (hi : EInfo P e (Rep.n α) bytes zz) (hT : aT = #[T,T]) (hx : QC n ρ x = v) (hy : QC n ρ y = vx) (hown : Own e (v :: L) w v xs) (hs : SlRd (v :: L) w vx ys)
    (hb : (xs.length + ys.length) * bytes ≤ 140737488355328) (hm : xs.length + ys.length ≤ maxLen)
    (h : ∀ v' w',Chg [v] w w' → (∀ b,Qh v' = some b → Qh v = some b ∨ w.heap.size ≤ b) → Own e (v' :: L) w' v' (xs ++ ys) → K v' w') : Eff P ⟨d,.call ⟨.builtin .append,#[x,y],aT⟩,t,p,af,gu⟩ n ρ w K:=by
  subst hT
  have e0 : execOp (QC n ρ) ⟨d,.call ⟨.builtin .append,#[x,y],#[T,T]⟩,t,p,af,gu⟩ = (Builtin.append_ #[T,T] t #[v,vx] >>= fun v=>Pure.pure (Next.value v)):=by
    simp [execOp,resolve,invoke,builtin,hx,hy]
  refine JE (by rw [e0]; exact Zs (Qlo hu _ _ _)) fun w1 e1=>?_
  rw [e0]
  obtain ⟨v',w',hr,hc,hbl,ho⟩:=Qqi (P:=P) (t:=t) hu hi (hown.step (Stepp.ext e1) e1 (fun _ _=>Avoids.nil _)) (hs.step (Stepp.ext e1)) hb hm
  simp only [Sem.run_bind,hr,Result.andThen,Sem.run_pure,effR]
  refine h v' w' ((e1.mono (fun _ h=>by cases h)).trans hc) (fun b hb=>(hbl b hb).imp id fun h=>Nat.le_trans e1.size h) ho

end
end Go.Gw

end
section
set_option linter.unusedSectionVars false
namespace Go.Gw
open Go

section
variable {P : Program} [JD P] {n : Nat} {ρ : Env} {w : World}
variable {d : Option Nat} {t T U : TypeId} {p : String} {af : Array Edge} {gu : Option (Nat × Bool)} {x y z : Operand}

theorem SlRd.ext {α : Type} [Rep α] {L : List Value} {w w' : World} {v : Value} {xs : List α} (h : SlRd L w v xs) (e : Ext w w') : SlRd L w' v xs:=h.step (Stepp.ext e)
theorem At.ext' {w w' : World} {a : Addr} {cs : List Value} (h : At w a cs) (e : Ext w w') : At w' a cs:=At.ext e h
theorem Own.ext {α : Type} [Rep α] {e : TypeId} {L : List Value} {w w' : World} {v : Value} {xs : List α} (h : Own e L w v xs) (c : Ext w w') : Own e L w' v xs:=h.step (Stepp.ext c) c (fun _ _=>Avoids.nil _)
theorem Rep.ext {α : Type} [Rep α] {L : List Value} {w w' : World} {cs : List Value} {a : α} (h : Rep.rd L w cs a) (c : Ext w w') : Rep.rd L w' cs a:=Rep.step (Stepp.ext c) h

theorem JN {α : Type} [Rep α] {e : TypeId} {L : List Value} {w2 : World} {v : Value} {xs : List α} {k : IntKind} {i : Int} {el : α} (hu : P.underlying T = some (.slice e)) (hs : XV P e (Rep.n α)) (hown : Own e L w2 v xs)
    (hel : idx xs i = some el) (hx : QC n ρ x = v) (hy : QC n ρ y = .int k i) : Yl P n ρ ⟨d,.indexAddr T x y,t,p,af,gu⟩ w (.pointer (some (QD v i.toNat (Rep.n α)))):=by
  obtain ⟨h0,h1,_⟩:=Qcd hel
  obtain ⟨cells,ho,_⟩:=hown
  rcases ho.2 with ⟨_,h⟩ | ⟨g,cap,cur,rfl,_⟩
  · omega
  · have h2 : i < (xs.length : Int):=by omega
    exact Qai (Zs (QBl _ _ _)) fun w1 _=>by simp [execOp,hx,hy,Instr.indexAt,asIntOf,run_underlying hu,h0,h2,Qad hs,QD]

theorem Own.at {α : Type} [Rep α] {e : TypeId} {L : List Value} {v : Value} {xs : List α} {i : Int} {el : α} (hown : Own e L w v xs) (hel : idx xs i = some el) : ∃ cs,At w (QD v i.toNat (Rep.n α)) cs ∧ Rep.rd L w cs el:=by
  obtain ⟨h0,h1,h2⟩:=Qcd hel
  obtain ⟨cells,ho,hE⟩:=hown
  rcases ho.2 with ⟨_,h⟩ | ⟨g,cap,cur,rfl,_,hg,h4,h5,hcs,htake⟩
  · omega
  · refine ⟨_,?_,hE.2 _ el h2⟩
    simp only [QD,YU,Nat.zero_add]
    refine At.of_block hg fun j u hu=>?_
    have hj : j < Rep.n α:=by
      rcases Nat.lt_or_ge j (Rep.n α) with h | h
      · exact h
      · rw [List.getElem?_eq_none (by simp; omega)] at hu; cases hu
    rw [List.getElem?_take_of_lt hj,List.getElem?_drop,← htake] at hu
    have hlt : i.toNat * Rep.n α + j < xs.length * Rep.n α:=by
      have : (i.toNat + 1) * Rep.n α ≤ xs.length * Rep.n α:=Nat.mul_le_mul_right _ h1
      rw [Nat.succ_mul] at this; omega
    rw [List.getElem?_take_of_lt hlt] at hu
    rw [← Array.getElem?_toList,← hu]

theorem Qqk {e : TypeId} {size g m cap : Nat} : ∀ (vs : List Value) (off i : Nat) (cells : List Value) (w : World), w.ownsRow 0 e size (.slice (some ⟨g, 0, none⟩) m cap) m cells → off + i + vs.length ≤ cells.length → (∀ v ∈ vs, v.oneCell' = true) →
    ∃ w',(storeCells ⟨g,off,none⟩ vs i).run P w = .ok () w' ∧ w'.ownsRow 0 e size (.slice (some ⟨g,0,none⟩) m cap) m (YY cells (off + i) vs) ∧ w.grownBy w' (some g)
  | [],off,i,cells,w,ho,_,_=>⟨w,rfl,ho,⟨rfl,rfl,rfl,Nat.le_refl _,fun _ _ _=>rfl⟩⟩
  | v :: vs,off,i,cells,w,ho,hl,h1=>by
    have hlt : off + i < cells.length:=by simp at hl; omega
    have hc : w.cell? ⟨g,off + i,none⟩ = some cells[off + i]:=by
      have:=World.ownsRow.cells ho (g:=g) rfl (off + i) _ (List.getElem?_eq_getElem hlt)
      rwa [YU,Nat.zero_add] at this
    have hfz : w.frozen? ⟨g,off + i,none⟩ = false:=by
      rcases ho.2 with ⟨h,_⟩ | ⟨g',cap',cur,h,_,hg,_⟩
      · cases h
      · cases h; simp [World.frozen?,hg]
    obtain ⟨ho1,hg1⟩:=World.ownsRow.stored (w:=w) (e:=e) (size:=size) (base:=0) ho (off + i) v
    obtain ⟨w',hr,ho2,hg2⟩:=Qqk vs off (i + 1) (cells.set (off + i) v) (w.setCell ⟨g,off + i,none⟩ v) ho1 (by simp at hl ⊢; omega) (fun u hu=>h1 u (List.mem_cons_of_mem _ hu))
    refine ⟨w',?_,ho2,⟨hg2.os.trans hg1.os,hg2.tape.trans hg1.tape,hg2.output.trans hg1.output,Nat.le_trans hg1.size hg2.size,fun k hk hne=>(hg2.block k (Nat.lt_of_lt_of_le hk hg1.size) hne).trans (hg1.block k hk hne)⟩⟩
    have hst : (store ((⟨g,off,none⟩ : Addr).add i) v).run P w = .ok () (w.setCell ⟨g,off + i,none⟩ v):=by
      have:=h1 v (List.mem_cons_self ..)
      rw [YU]
      cases v <;> simp [Value.oneCell'] at this <;> simp [store,Sem.run,hc,hfz]
    simp only [storeCells,Sem.run_bind,hst,Result.andThen]
    exact hr

theorem Qzx (vs : List Value) : ∀ (cs : List Value) (k : Nat),(YY cs k vs).length = cs.length:=by
  induction vs with
  | nil=>intro cs k; rfl
  | cons v vs ih=>intro cs k; simp [YY,ih]

theorem Qzz (vs : List Value) : ∀ (cells : List Value) (a b k : Nat),k + vs.length ≤ b → ((YY cells (a + k) vs).drop a).take b = YY ((cells.drop a).take b) k vs:=by
  induction vs with
  | nil=>intro cells a b k _; rfl
  | cons v vs ih =>
    intro cells a b k hk
    simp only [YY]
    have h1 : k + 1 + vs.length ≤ b:=by simp at hk; omega
    rw [Nat.add_assoc,ih (cells.set (a + k) v) a b (k + 1) h1]
    congr 1
    rw [List.drop_set,if_neg (by omega),List.take_set,Nat.add_sub_cancel_left]

theorem Qzy (vs : List Value) : ∀ (cells : List Value) (a b k : Nat),(a + b ≤ k ∨ k + vs.length ≤ a) → ((YY cells k vs).drop a).take b = (cells.drop a).take b:=by
  induction vs with
  | nil=>intro cells a b k _; rfl
  | cons v vs ih =>
    intro cells a b k hk
    simp only [YY]
    rw [ih _ a b (k + 1) (by simp at hk; omega)]
    rw [List.drop_set]
    split
    · rfl
    · rw [List.take_set,List.set_eq_of_length_le]
      simp; simp at hk; omega

theorem QEl {α : Type} [Rep α] {e : TypeId} {L : List Value} {v : Value} {xs : List α} {i : Int} {el y' : α} {off : Nat} {u : Value} {K : Value → World → Prop} (hs : XV P T u.cells.size) (hown : Own e L w v xs) (hv : v ∈ L) (hel : idx xs i = some el)
    (hx : QC n ρ x = .pointer (some ((QD v i.toNat (Rep.n α)).add off))) (hy : QC n ρ y = u) (hl : off + u.cells.size ≤ Rep.n α) (h1 : ∀ c ∈ u.cells.toList,c.oneCell' = true)
    (hset : ∀ w' cs,Rep.rd L w' cs el → Rep.rd L w' (YY cs off u.cells.toList) y')
    (h : ∀ w',Chg [v] w w' → Own e L w' v (xs.set i.toNat y') → K undef w') : Eff P ⟨d,.store T x y,t,p,af,gu⟩ n ρ w K:=by
  refine JE (Qri (Qrh _ _ _)) fun w1 e1=>?_
  replace hown:=hown.step (Stepp.ext e1) e1 (fun _ _=>Avoids.nil _)
  obtain ⟨h0,hi,h2⟩:=Qcd hel
  obtain ⟨cells,ho,hE⟩:=hown
  rcases ho.2 with ⟨_,hh⟩ | ⟨g,cap,cur,rfl,_,hg,h4,h5,hcs,htake⟩
  · omega
  · have hlen : i.toNat * Rep.n α + off + 0 + u.cells.toList.length ≤ cells.length := by
      have : (i.toNat + 1) * Rep.n α ≤ xs.length * Rep.n α:=Nat.mul_le_mul_right _ hi
      rw [Nat.succ_mul] at this
      rw [hE.1]; simp; omega
    obtain ⟨w',hr,ho2,hg2⟩:=Qqk (P:=P) u.cells.toList (i.toNat * Rep.n α + off) 0 cells w1 ho hlen h1
    have hx' : QC n ρ x = .pointer (some ⟨g,i.toNat * Rep.n α + off,none⟩):=by rw [hx]; simp [QD,YU]
    have hst : (Instr.storeAt T (.pointer (some ⟨g,i.toNat * Rep.n α + off,none⟩)) u).run P w1 = .ok () w':=by
      simp [Instr.storeAt,Instr.sureAddr,storeVar,Qad hs,hr]
    simp only [execOp,hx',hy,Sem.run_bind,hst,Result.andThen,Sem.run_pure,effR]
    have hc : Chg [Value.slice (some ⟨g,0,none⟩) xs.length cap] w1 w':=⟨hg2.os,hg2.tape,hg2.output,hg2.size,fun b hb hA=>hg2.block b hb (fun e=>hA _ (List.mem_singleton.2 rfl) (by cases e; rfl))⟩
    refine h w' ((e1.mono (fun _ h=>by cases h)).trans hc) ⟨_,by rw [List.length_set]; exact ho2,?_⟩
    have hE':=hE.step (Qf hc hv)
    refine ⟨by rw [Qzx,List.length_set]; exact hE.1,fun j b hb=>?_⟩
    by_cases hj : j = i.toNat
    · subst hj
      rw [List.getElem?_set_self hi] at hb
      cases hb
      rw [Nat.add_zero,Qzz _ _ _ _ _ (by simpa using hl)]
      exact hset _ _ (hE'.2 _ _ h2)
    · rw [List.getElem?_set_ne (Ne.symm hj)] at hb
      rw [Nat.add_zero,Qzy]
      · exact hE'.2 _ _ hb
      · rcases Nat.lt_or_ge j i.toNat with hlt | hge
        · left
          have : (j + 1) * Rep.n α ≤ i.toNat * Rep.n α:=Nat.mul_le_mul_right _ hlt
          rw [Nat.succ_mul] at this; omega
        · right
          have : (i.toNat + 1) * Rep.n α ≤ j * Rep.n α:=Nat.mul_le_mul_right _ (by omega)
          rw [Nat.succ_mul] at this; simp; omega

/-! ### Cuts -/
def cut {α : Type} (xs : List α) (lo hi : Int) : Option (List α):=if 0 ≤ lo ∧ lo ≤ hi ∧ hi ≤ xs.length then some ((xs.take hi.toNat).drop lo.toNat) else none

theorem Qiq {α : Type} {xs ys : List α} {lo hi : Int} (h : cut xs lo hi = some ys) : 0 ≤ lo ∧ lo ≤ hi ∧ hi ≤ xs.length ∧ ys = (xs.take hi.toNat).drop lo.toNat:=by
  unfold cut at h
  split at h
  · rename_i hc; exact ⟨hc.1,hc.2.1,hc.2.2,by cases h; rfl⟩
  · cases h

def Qbx (v : Value) (lo hi k : Nat) : Value:=match v with
  | .slice a _ c=>.slice (if c = lo then a else a.map (·.add (lo * k))) (hi - lo) (c - lo)
  | v=>v

theorem SlRd.cut {α : Type} [Rep α] {L : List Value} {w : World} {v : Value} {xs ys : List α} {lo hi : Int} (hs : SlRd L w v xs) (hc : cut xs lo hi = some ys) : SlRd L w (Qbx v lo.toNat hi.toNat (Rep.n α)) ys:=by
  obtain ⟨h0,h1,h2,rfl⟩:=Qiq hc
  rcases hs with ⟨a0,rfl,rfl⟩ | ⟨b,off,cap,cur,e,fz,rfl,hb,hA,h4,h5,h6,h7⟩
  · have : hi = 0:=by simp at h2; omega
    subst this
    have : lo = 0:=by omega
    subst this
    exact .inl ⟨a0,by simp [Qbx],by simp⟩
  · have hlen : ((xs.take hi.toNat).drop lo.toNat).length = hi.toNat - lo.toNat:=by simp; omega
    have elem : ∀ off',off' = off + lo.toNat * Rep.n α → Elems L w ((cur.toList.drop off').take (((xs.take hi.toNat).drop lo.toNat).length * Rep.n α)) ((xs.take hi.toNat).drop lo.toNat):=by
      rintro off' rfl
      have hmul : (lo.toNat + (hi.toNat - lo.toNat)) * Rep.n α ≤ xs.length * Rep.n α:=Nat.mul_le_mul_right _ (by omega)
      have hmul2 : xs.length * Rep.n α ≤ cap * Rep.n α:=Nat.mul_le_mul_right _ h4
      rw [Nat.add_mul] at hmul
      refine ⟨by rw [hlen]; simp; omega,fun j b hb=>?_⟩
      have hj : j < hi.toNat - lo.toNat:=by
        rcases Nat.lt_or_ge j (hi.toNat - lo.toNat) with h | h
        · exact h
        · rw [List.getElem?_eq_none (by rw [hlen]; exact h)] at hb; cases hb
      have hb' : xs[lo.toNat + j]? = some b:=by
        rw [List.getElem?_drop,List.getElem?_take_of_lt (by omega)] at hb; exact hb
      have:=h7.2 _ b hb'
      have hj2 : (j + 1) * Rep.n α ≤ (hi.toNat - lo.toNat) * Rep.n α:=Nat.mul_le_mul_right _ hj
      rw [Nat.succ_mul] at hj2
      have hj3 : (lo.toNat + j) * Rep.n α = lo.toNat * Rep.n α + j * Rep.n α:=Nat.add_mul ..
      rw [List.drop_take,List.take_take,List.drop_drop] at this ⊢
      rw [hlen]
      rw [Nat.min_eq_left (by omega)] at this ⊢
      rw [hj3,← Nat.add_assoc] at this
      exact this
    by_cases hcl : cap = lo.toNat
    · refine .inr ⟨b,off,cap - lo.toNat,cur,e,fz,by simp [Qbx,hcl,hlen],hb,hA,by rw [hlen]; omega,by omega,?_,?_⟩
      · have : (cap - lo.toNat) * Rep.n α ≤ cap * Rep.n α:=Nat.mul_le_mul_right _ (by omega)
        omega
      · have hz : ((xs.take hi.toNat).drop lo.toNat) = []:=List.eq_nil_of_length_eq_zero (by rw [hlen]; omega)
        rw [hz]; simp [Elems]
    · refine .inr ⟨b,off + lo.toNat * Rep.n α,cap - lo.toNat,cur,e,fz,by simp [Qbx,hcl,hlen,YU],hb,hA,by rw [hlen]; omega,by omega,?_,elem _ rfl⟩
      have : (lo.toNat + (cap - lo.toNat)) * Rep.n α ≤ cap * Rep.n α:=Nat.mul_le_mul_right _ (by omega)
      rw [Nat.add_mul] at this
      omega

theorem Qzn {k : IntKind} {i : Int} {y : Nat} {c : BoundsCode} (h0 : 0 ≤ i) (h1 : i ≤ y) : (Instr.sliceBound (.int k i) y c).run P w = .ok i.toNat w:=by
  simp [Instr.sliceBound,asIntOf,h0,h1]

/-! ### Structs and arrays built; made slices -/
omit [JD P] in
structure BI (P : Program) (T : TypeId) (places : List (Nat × Nat)) (zero : List Value) : Prop where
  ex : ∃ it fs z,P.info? T = some it ∧ P.underlying T = some (.struct fs) ∧ it.zero = some z ∧ z.cells = zero.toArray ∧ fs.toList.mapM (fun f=>(P.info? f.type).map fun i=>(f.offset,i.size)) = some places

theorem QUp {cells zero : List Value} {places : List (Nat × Nat)} {parts : Array (Nat × Operand)} (hB : BI P T places zero) (h : JS (places[·]?) zero (parts.toList.map fun q => (q.1, QC n ρ q.2)) = some cells) :
    Yl P n ρ ⟨d,.build T parts,t,p,af,gu⟩ w (.agg cells.toArray):=by
  obtain ⟨it,fs,z,h1,h2,h3,h4,h5⟩:=hB.ex
  have h' : P.built T (parts.map fun (i,x)=>(i,QC n ρ x)).toList = some cells.toArray:=by
    simp only [Program.built,h1,h2,h3,h5,h4]
    have:=Qow _ _ _ h
    rw [Array.toList_map]
    simpa using this
  exact Qai (Zs (QTc _ _)) fun w1 _=>by simp only [execOp,Sem.run_bind,run_build w1 T _ _ h',Result.andThen,Sem.run_pure]

end
end Go.Gw

end
section
set_option linter.unusedSectionVars false
namespace Go.Gw
open Go

abbrev w64 (x : Int) : Int:=IntKind.wrap .i64 x

theorem Qs {α : Type} {b : Bool} {x y z : α} (hb : b = true) (h : cond b x y = z) : x = z:=by subst hb; exact h
theorem Qz {α : Type} {b : Bool} {x y z : α} (hb : b = false) (h : cond b x y = z) : y = z:=by subst hb; exact h
theorem Qg {α β : Type} {e : Option α} {f : α → Option β} {r : β} (h : e.bind f = some r) : ∃ x,e = some x ∧ f x = some r:=by
  cases e with
  | none=>cases h
  | some x=>exact ⟨x,rfl,h⟩

noncomputable def loop {σ β : Type} (step : σ → Option (σ ⊕ β)) (s : σ) : Option β :=
  open Classical in if h : ∃ o, ∃ k, iter step k s = some o then some (Classical.choose h) else none

theorem Qwy {σ β : Type} {step : σ → Option (σ ⊕ β)} : ∀ {k k' : Nat} {s : σ} {o o' : β},iter step k s = some o → iter step k' s = some o' → o = o'
  | 0,_,_,_,_,h,_=>by cases h
  | _ + 1,0,_,_,_,_,h=>by cases h
  | k + 1,k' + 1,s,o,o',h,h'=>by
    simp only [iter] at h h'
    cases hs : step s with
    | none=>simp [hs] at h
    | some x =>
      cases x with
      | inl s'=>simp only [hs] at h h'; exact Qwy h h'
      | inr b=>simp only [hs] at h h'; cases h; cases h'; rfl

theorem loop_iff {σ β : Type} {step : σ → Option (σ ⊕ β)} {s : σ} {o : β} : loop step s = some o ↔ ∃ k,iter step k s = some o:=by
  classical
  unfold loop
  constructor
  · intro h
    split at h
    · rename_i hh
      obtain ⟨k,hk⟩:=Classical.choose_spec hh
      cases h
      exact ⟨k,hk⟩
    · cases h
  · rintro ⟨k,hk⟩
    have hh : ∃ o,∃ k,iter step k s = some o:=⟨o,k,hk⟩
    rw [dif_pos hh]
    obtain ⟨k',hk'⟩:=Classical.choose_spec hh
    rw [Qwy hk' hk]

theorem Qjp {σ β : Type} {step : σ → Option (σ ⊕ β)} {s s' : σ} (h : step s = some (.inl s')) : loop step s = loop step s':=by
  apply Option.ext
  intro o
  rw [loop_iff,loop_iff]
  constructor
  · rintro ⟨k,hk⟩
    cases k with
    | zero=>cases hk
    | succ k=>simp only [iter,h] at hk; exact ⟨k,hk⟩
  · rintro ⟨k,hk⟩
    exact ⟨k + 1,by simp only [iter,h]; exact hk⟩
theorem Qdt {σ β : Type} {step : σ → Option (σ ⊕ β)} {s : σ} {o : β} (h : step s = some (.inr o)) : loop step s = some o:=by
  rw [loop_iff]; exact ⟨1,by simp only [iter,h]⟩

section
variable {P : Program} [JD P] {n : Nat} {q : Post} {ρ : Env} {w : World}

theorem QCr {c : Code} {σ β : Type} {step : σ → Option (σ ⊕ β)} {s : σ} {o : β} (I : σ → Env → World → Prop) (h : loop step s = some o) (h0 : I s ρ w)
    (round : ∀ s ρ w,I s ρ w → ∀ x,step s = some x → (∀ y,x = .inr y → y = o) → WC P n c ⟨fun ρ w=>∃ s',x = .inl s' ∧ I s' ρ w,q.ex,q.ret⟩ ρ w) : WC P n (.loop c) q ρ w:=by
  obtain ⟨k,hk⟩:=loop_iff.1 h
  refine QCq (step:=step) (k:=k) (s:=s) (o:=o) I hk h0 fun s ρ w hI=>⟨fun s' hs=>?_,fun hs=>?_⟩
  · exact (round s ρ w hI _ hs (fun y hy=>by cases hy)).mono (fun ρ w ⟨s'',he,hI'⟩=>by cases he; exact hI') (fun _ _ _ h=>h) (fun _ _ h=>h)
  · exact (round s ρ w hI _ hs (fun y hy=>by cases hy; rfl)).mono (fun ρ w ⟨s'',he,_⟩=>by cases he) (fun _ _ _ h=>h) (fun _ _ h=>h)

theorem ZX {ops : Array Oper} {K : Env → World → Prop} {o : Oper} {os : List Oper} (b : Bool) (V : Value) (hw : Yf ops o n ρ = b) (ht : b = true → Eff P o n ρ w (fun v w' => v = V ∧ Ext w w'))
    (h : ∀ w',Ext w w' → T0 P n ops K os (XG ρ o.dst (gd b V)) w') : T0 P n ops K (o :: os) ρ w :=
  Qrn b hw (fun hb=>(ht hb).mono fun v w' ⟨hv,he⟩=>by have:=h w' he; rw [Qr hb] at this; rw [hv]; exact this)
    (fun hb=>by have:=h w (Chg.refl _ _); rw [Qdq hb] at this; exact this)
section ev
variable {x1 x2 x3 x4 x5 x6 x7 x8 : Operand} {v1 v2 v3 v4 v5 v6 v7 v8 : Value}
theorem ev0 : ((#[] : Array Operand).map (QC n ρ)).toList = []:=by simp
theorem Xl (h1 : QC n ρ x1 = v1) : (#[x1].map (QC n ρ)).toList = [v1]:=by subst h1; simp
theorem QX (h1 : QC n ρ x1 = v1) (h2 : QC n ρ x2 = v2) : (#[x1,x2].map (QC n ρ)).toList = [v1,v2]:=by subst h1 h2; simp
theorem Ya (h1 : QC n ρ x1 = v1) (h2 : QC n ρ x2 = v2) (h3 : QC n ρ x3 = v3) : (#[x1,x2,x3].map (QC n ρ)).toList = [v1,v2,v3]:=by subst h1 h2 h3; simp
theorem ev4 (h1 : QC n ρ x1 = v1) (h2 : QC n ρ x2 = v2) (h3 : QC n ρ x3 = v3) (h4 : QC n ρ x4 = v4) : (#[x1,x2,x3,x4].map (QC n ρ)).toList = [v1,v2,v3,v4]:=by subst h1 h2 h3 h4; simp
end ev

variable {d : Option Nat} {t T U : TypeId} {p : String} {af : Array Edge} {gu : Option (Nat × Bool)} {x y z : Operand}
theorem Qp {fs : Array Field} {i : Nat} {f : Field} {a : Addr} {v : Value} (off : Nat) (hu : P.underlying T = some (.struct fs)) (hf : fs[i]? = some f) (ho : f.offset = off) (hs : ∃ k, XV P f.type (k + 1)) (hx : QC n ρ x = .pointer (some a))
    (hv : v = .pointer (some (a.add off))) : Yl P n ρ ⟨d,.fieldAddr T x i,t,p,af,gu⟩ w v:=by
  subst hv; subst ho
  obtain ⟨k,hs⟩:=hs
  exact QUt hu hf hs hx

theorem XP {a : Addr} {cs : List Value} (hT : Aggr P T cs.length) (hat : At w a cs) : ∀ w1,Rel w w1 → (loadVar T a).run P w1 = .ok (.agg cs.toArray) w1:=fun w1 r=>by
  simp [loadVar,Qzq hT,Qad hT.size,run_loadCells_list w1 a cs (At.ext r.ext hat).2]
def LtL (L : List Value) (w : World) : Prop:=∀ h ∈ L,∀ b,Qh h = some b → b < w.heap.size
theorem LtL.chg {L H : List Value} {w w' : World} (h : LtL L w) (c : Chg H w w') : LtL L w':=fun x hx b hb=>Nat.lt_of_lt_of_le (h x hx b hb) c.size
theorem LtL.nil (w : World) : LtL [] w:=fun _ h=>by cases h
theorem LtL.cons {L : List Value} {w : World} {v : Value} (h : LtL L w) (hv : ∀ b,Qh v = some b → b < w.heap.size) : LtL (v :: L) w:=fun x hx b hb=>by
  rcases List.mem_cons.1 hx with rfl | hx
  · exact hv b hb
  · exact h x hx b hb

theorem Own.sub {α : Type} [Rep α] {e : TypeId} {L L' : List Value} {v : Value} {xs : List α} (h : Own e L w v xs) (hs : ∀ x ∈ L',x ∈ L) : Own e L' w v xs:=h.step (Stepp.sub w hs) (Chg.refl [] w) (fun _ _=>Avoids.nil _)
theorem SlRd.sub {α : Type} [Rep α] {L L' : List Value} {v : Value} {xs : List α} (h : SlRd L w v xs) (hs : ∀ x ∈ L',x ∈ L) : SlRd L' w v xs:=h.step (Stepp.sub w hs)
theorem Own.rdL {α : Type} [Rep α] {e : TypeId} {L L0 : List Value} {w0 : World} {v : Value} {xs : List α} (h : Own e L w v xs) (hs : ∀ x ∈ L0,x ∈ L) (hL : LtL L0 w0) (hf : ∀ b,Qh v = some b → w0.heap.size ≤ b) : SlRd L0 w v xs :=
  (h.sub hs).rd (fun b hb x hx e=>by have:=hL x hx b e; have:=hf b hb; omega)
theorem QS {v : Value} {b : Nat} (h : Qh v ≠ some b) : Avoids [v] b:=fun x hx e=>by rcases List.mem_singleton.1 hx with rfl; exact h e
theorem QA {b b' : Nat} (h : b' ≠ b) : Avoids [.pointer (some ⟨b',0,none⟩)] b:=fun x hx e=>by rcases List.mem_singleton.1 hx with rfl; simp [Qh] at e; exact h e
end
end Go.Gw
namespace Go.Gw
section
variable {P : Program} [JD P] {n : Nat} {q : Post} {ρ : Env} {w : World}
theorem Xj {c : Code} {σ β : Type} {step : σ → Option (σ ⊕ β)} {s : σ} {o : β} (I : σ → Env → World → Prop) (h : loop step s = some o) (h0 : I s ρ w)
    (round : ∀ s ρ w,I s ρ w → ∀ x,step s = some x → (∀ y,x = .inr y → y = o) → ∀ K : Env → World → Prop,(∀ s' ρ w,x = .inl s' → I s' ρ w → K ρ w) → WC P n c ⟨K,q.ex,q.ret⟩ ρ w) : WC P n (.loop c) q ρ w :=
  QCr I h h0 fun s ρ w hI x hx ho=>round s ρ w hI x hx ho _ fun s' _ _ he hI'=>⟨s',he,hI'⟩
theorem Q5 {α : Type} {a : α} {L L' : List α} (h : a ∈ L') (hs : ∀ x ∈ L,x ∈ L') : ∀ x ∈ a :: L,x ∈ L':=fun x hx=>by
  rcases List.mem_cons.1 hx with rfl | hx
  · exact h
  · exact hs x hx
theorem XB {α : Type} (L : List α) : ∀ x ∈ L,x ∈ L:=fun _ h=>h
theorem QP {α : Type} {a : α} {L L' : List α} (hs : ∀ x ∈ L,x ∈ L') : ∀ x ∈ L,x ∈ a :: L':=fun x hx=>List.mem_cons_of_mem _ (hs x hx)
abbrev AgV (l : List Value) : Value:=.agg l.toArray
theorem Ql {α : Type} {a : α} {L : List α} : a ∈ a :: L:=List.mem_cons_self ..
theorem QE {α : Type} {a b : α} {L : List α} (h : a ∈ L) : a ∈ b :: L:=List.mem_cons_of_mem _ h
theorem Q1 {α : Type} {x0 x1 : α} {L : List α} : x1 ∈ x0 :: x1 :: L:=QE Ql
theorem Xh {α : Type} {x0 x1 x2 : α} {L : List α} : x2 ∈ x0 :: x1 :: x2 :: L:=QE (QE Ql)
theorem YX {α : Type} {x0 x1 x2 x3 : α} {L : List α} : x3 ∈ x0 :: x1 :: x2 :: x3 :: L:=QE (QE (QE Ql))
theorem YT {α : Type} {x0 x1 : α} {L : List α} : ∀ x ∈ L,x ∈ x0 :: x1 :: L:=QP (QP (XB _))
theorem Qau {α : Type} {x0 x1 x2 : α} {L : List α} : ∀ x ∈ L,x ∈ x0 :: x1 :: x2 :: L:=QP (QP (QP (XB _)))
theorem JV {α : Type} {x0 x1 x2 x3 : α} {L : List α} : ∀ x ∈ L,x ∈ x0 :: x1 :: x2 :: x3 :: L:=QP (QP (QP (QP (XB _))))
theorem Qas {α : Type} {x0 x1 x2 : α} {L : List α} : ∀ x ∈ x0 :: x2 :: L,x ∈ x0 :: x1 :: x2 :: L:=Q5 Ql (Q5 (QE (QE Ql)) (QP (QP (QP (XB _)))))
theorem Qef {α : Type} {x0 x1 x2 x3 : α} {L : List α} : ∀ x ∈ x0 :: x2 :: x3 :: L,x ∈ x0 :: x1 :: x2 :: x3 :: L:=Q5 Ql (Q5 (QE (QE Ql)) (Q5 (QE (QE (QE Ql))) (QP (QP (QP (QP (XB _)))))))
theorem Qcj {α : Type} {x0 x1 x2 x3 x4 : α} {L : List α} : ∀ x ∈ x0 :: x2 :: x3 :: x4 :: L,x ∈ x0 :: x1 :: x2 :: x3 :: x4 :: L:=Q5 Ql (Q5 (QE (QE Ql)) (Q5 (QE (QE (QE Ql))) (Q5 (QE (QE (QE (QE Ql)))) (QP (QP (QP (QP (QP (XB _)))))))))
theorem YK {α : Type} {x0 x1 : α} {L : List α} : ∀ x ∈ x0 :: L,x ∈ x0 :: x1 :: L:=Q5 Ql (QP (QP (XB _)))
theorem YN {α : Type} {x0 x1 : α} {L : List α} : ∀ x ∈ x1 :: x0 :: L,x ∈ x0 :: x1 :: L:=Q5 (QE Ql) (Q5 Ql (QP (QP (XB _))))
theorem Ym {α : Type} {x0 x1 x2 : α} {L : List α} : ∀ x ∈ x1 :: x0 :: x2 :: L,x ∈ x0 :: x1 :: x2 :: L:=Q5 (QE Ql) (Q5 Ql (Q5 (QE (QE Ql)) (QP (QP (QP (XB _))))))
theorem XX {α : Type} {x0 x1 x2 x3 : α} {L : List α} : ∀ x ∈ x1 :: x0 :: x2 :: x3 :: L,x ∈ x0 :: x1 :: x2 :: x3 :: L:=Q5 (QE Ql) (Q5 Ql (Q5 (QE (QE Ql)) (Q5 (QE (QE (QE Ql))) (QP (QP (QP (QP (XB _))))))))
theorem YS {α : Type} {x0 x1 x2 x3 : α} {L : List α} : ∀ x ∈ x1 :: x0 :: x3 :: x2 :: L,x ∈ x0 :: x1 :: x2 :: x3 :: L:=Q5 (QE Ql) (Q5 Ql (Q5 (QE (QE (QE Ql))) (Q5 (QE (QE Ql)) (QP (QP (QP (QP (XB _))))))))
theorem Qae {α : Type} {x0 x1 x2 : α} {L : List α} : ∀ x ∈ x1 :: x2 :: L,x ∈ x0 :: x1 :: x2 :: L:=Q5 (QE Ql) (Q5 (QE (QE Ql)) (QP (QP (QP (XB _)))))
theorem Qeg {α : Type} {x0 x1 x2 x3 x4 : α} {L : List α} : ∀ x ∈ x1 :: x2 :: x0 :: x3 :: x4 :: L,x ∈ x0 :: x1 :: x2 :: x3 :: x4 :: L:=Q5 (QE Ql) (Q5 (QE (QE Ql)) (Q5 Ql (Q5 (QE (QE (QE Ql))) (Q5 (QE (QE (QE (QE Ql)))) (QP (QP (QP (QP (QP (XB _))))))))))
theorem Xk {α : Type} {x0 x1 x2 x3 : α} {L : List α} : ∀ x ∈ x1 :: x2 :: x3 :: L,x ∈ x0 :: x1 :: x2 :: x3 :: L:=Q5 (QE Ql) (Q5 (QE (QE Ql)) (Q5 (QE (QE (QE Ql))) (QP (QP (QP (QP (XB _)))))))
theorem Yp {α : Type} {x0 x1 x2 x3 x4 : α} {L : List α} : ∀ x ∈ x1 :: x2 :: x3 :: x4 :: L,x ∈ x0 :: x1 :: x2 :: x3 :: x4 :: L:=Q5 (QE Ql) (Q5 (QE (QE Ql)) (Q5 (QE (QE (QE Ql))) (Q5 (QE (QE (QE (QE Ql)))) (QP (QP (QP (QP (QP (XB _)))))))))
theorem Qck {α : Type} {x0 x1 x2 x3 x4 x5 x6 : α} {L : List α} : ∀ x ∈ x1 :: x2 :: x3 :: x4 :: x5 :: x6 :: L,x ∈ x0 :: x1 :: x2 :: x3 :: x4 :: x5 :: x6 :: L:=Q5 (QE Ql) (Q5 (QE (QE Ql)) (Q5 (QE (QE (QE Ql))) (Q5 (QE (QE (QE (QE Ql)))) (Q5 (QE (QE (QE (QE (QE Ql))))) (Q5 (QE (QE (QE (QE (QE (QE Ql)))))) (QP (QP (QP (QP (QP (QP (QP (XB _)))))))))))))
theorem Qeh {α : Type} {x0 x1 : α} {L : List α} : ∀ x ∈ x1 :: L,x ∈ x0 :: x1 :: L:=Q5 (QE Ql) (QP (QP (XB _)))
theorem Qhj {α : Type} {x0 x1 x2 x3 : α} {L : List α} : ∀ x ∈ x1 :: L,x ∈ x0 :: x1 :: x2 :: x3 :: L:=Q5 (QE Ql) (QP (QP (QP (QP (XB _)))))
theorem Qcl {α : Type} {x0 x1 x2 : α} {L : List α} : ∀ x ∈ x2 :: x0 :: x0 :: L,x ∈ x0 :: x1 :: x2 :: L:=Q5 (QE (QE Ql)) (Q5 Ql (Q5 Ql (QP (QP (QP (XB _))))))
theorem Xb {α : Type} {x0 x1 x2 x3 : α} {L : List α} : ∀ x ∈ x2 :: x0 :: x1 :: x3 :: L,x ∈ x0 :: x1 :: x2 :: x3 :: L:=Q5 (QE (QE Ql)) (Q5 Ql (Q5 (QE Ql) (Q5 (QE (QE (QE Ql))) (QP (QP (QP (QP (XB _))))))))
theorem JK {α : Type} {x0 x1 x2 x3 : α} {L : List α} : ∀ x ∈ x2 :: x0 :: x3 :: x1 :: L,x ∈ x0 :: x1 :: x2 :: x3 :: L:=Q5 (QE (QE Ql)) (Q5 Ql (Q5 (QE (QE (QE Ql))) (Q5 (QE Ql) (QP (QP (QP (QP (XB _))))))))
theorem Qat {α : Type} {x0 x1 x2 x3 : α} {L : List α} : ∀ x ∈ x2 :: x1 :: x3 :: x0 :: L,x ∈ x0 :: x1 :: x2 :: x3 :: L:=Q5 (QE (QE Ql)) (Q5 (QE Ql) (Q5 (QE (QE (QE Ql))) (Q5 Ql (QP (QP (QP (QP (XB _))))))))
theorem Qei {α : Type} {x0 x1 x2 x3 x4 x5 : α} {L : List α} : ∀ x ∈ x2 :: x3 :: x0 :: x4 :: x5 :: L,x ∈ x0 :: x1 :: x2 :: x3 :: x4 :: x5 :: L:=Q5 (QE (QE Ql)) (Q5 (QE (QE (QE Ql))) (Q5 Ql (Q5 (QE (QE (QE (QE Ql)))) (Q5 (QE (QE (QE (QE (QE Ql))))) (QP (QP (QP (QP (QP (QP (XB _)))))))))))
theorem Qcm {α : Type} {x0 x1 x2 x3 x4 : α} {L : List α} : ∀ x ∈ x2 :: x3 :: x4 :: L,x ∈ x0 :: x1 :: x2 :: x3 :: x4 :: L:=Q5 (QE (QE Ql)) (Q5 (QE (QE (QE Ql))) (Q5 (QE (QE (QE (QE Ql)))) (QP (QP (QP (QP (QP (XB _))))))))
theorem Qbm {α : Type} {x0 x1 x2 : α} {L : List α} : ∀ x ∈ x2 :: L,x ∈ x0 :: x1 :: x2 :: L:=Q5 (QE (QE Ql)) (QP (QP (QP (XB _))))
theorem Qhk {α : Type} {x0 x1 x2 x3 : α} {L : List α} : ∀ x ∈ x2 :: L,x ∈ x0 :: x1 :: x2 :: x3 :: L:=Q5 (QE (QE Ql)) (QP (QP (QP (QP (XB _)))))
theorem XI {α : Type} {x0 x1 x2 x3 : α} {L : List α} : ∀ x ∈ x3 :: x0 :: x1 :: x2 :: L,x ∈ x0 :: x1 :: x2 :: x3 :: L:=Q5 (QE (QE (QE Ql))) (Q5 Ql (Q5 (QE Ql) (Q5 (QE (QE Ql)) (QP (QP (QP (QP (XB _))))))))
theorem Qcn {α : Type} {x0 x1 x2 x3 x4 x5 : α} {L : List α} : ∀ x ∈ x3 :: x0 :: x1 :: x2 :: x4 :: x5 :: L,x ∈ x0 :: x1 :: x2 :: x3 :: x4 :: x5 :: L:=Q5 (QE (QE (QE Ql))) (Q5 Ql (Q5 (QE Ql) (Q5 (QE (QE Ql)) (Q5 (QE (QE (QE (QE Ql)))) (Q5 (QE (QE (QE (QE (QE Ql))))) (QP (QP (QP (QP (QP (QP (XB _))))))))))))
theorem XU {α : Type} {x0 x1 x2 x3 : α} {L : List α} : ∀ x ∈ x3 :: x1 :: x0 :: L,x ∈ x0 :: x1 :: x2 :: x3 :: L:=Q5 (QE (QE (QE Ql))) (Q5 (QE Ql) (Q5 Ql (QP (QP (QP (QP (XB _)))))))
end
end Go.Gw
namespace Go.Gw
def jn0 {β μ : Type} (o : β ⊕ μ) (f : μ → Option β) : Option β:=match o with | .inl b=>some b | .inr m=>f m
def jn1 {σ β μ μ' : Type} (o : β ⊕ μ) (f : μ → Option (σ ⊕ (β ⊕ μ'))) : Option (σ ⊕ (β ⊕ μ')):=match o with | .inl b=>some (.inr (.inl b)) | .inr m=>f m
def jn2 {β μ μ' : Type} (o : β ⊕ μ) (f : μ → Option (β ⊕ μ')) : Option (β ⊕ μ'):=match o with | .inl b=>some (.inl b) | .inr m=>f m
theorem Xs {β μ : Type} {a : β} {f : μ → Option β} {x : β} (h : jn0 (.inl a) f = some x) : some a = some x:=h
theorem XJ {β μ : Type} {a : μ} {f : μ → Option β} {x : β} (h : jn0 (.inr a) f = some x) : f a = some x:=h
section
variable {α : Type} [Rep α] {w w' : World}
theorem XY {e : TypeId} {L : List Value} {v : Value} {xs : List α} {b : Nat} (h : Own e L w v xs) (hb : w.heap.size ≤ b) : Qh v ≠ some b:=fun e=>by have:=h.blk_lt e; omega
theorem Q4 {v v' : Value} {b : Nat} {cs : List Value} {T : TypeId} (hbl : ∀ b,Qh v' = some b → Qh v = some b ∨ w.heap.size ≤ b) (h : Qh v ≠ some b) (hB : Box w b cs T) : Qh v' ≠ some b:=fun e=>by
  rcases hbl b e with h1 | h1
  · exact h h1
  · have:=hB.lt; omega
theorem Xx {e : TypeId} {L : List Value} {u v v' : Value} {xs : List α} (hbl : ∀ b,Qh v' = some b → Qh v = some b ∨ w.heap.size ≤ b) (h : ∀ b,Qh u = some b → Qh v ≠ some b) (hu : Own e L w u xs) : ∀ b,Qh u = some b → Qh v' ≠ some b:=fun b hb e=>by
  rcases hbl b e with h1 | h1
  · exact h b hb h1
  · have:=hu.blk_lt hb; omega
theorem Xv {v v' : Value} {w0 : World} (hbl : ∀ b,Qh v' = some b → Qh v = some b ∨ w.heap.size ≤ b) (h : ∀ b,Qh v = some b → w0.heap.size ≤ b) (hs : w0.heap.size ≤ w.heap.size) : ∀ b,Qh v' = some b → w0.heap.size ≤ b:=fun b hb=>by
  rcases hbl b hb with h1 | h1
  · exact h b h1
  · omega
theorem Xp {u v : Value} (h : ∀ b,Qh u = some b → Qh v ≠ some b) : ∀ b,Qh v = some b → Qh u ≠ some b:=fun b hb e=>h b e hb
theorem ZN (b : Nat) {p : Prop} (h : Qh (.slice none 0 0) = some b) : p:=by cases h
theorem Xt {v : Value} {u : Value} (h : ∀ b,Qh u = some b → Qh v ≠ some b) : ∀ b,Qh u = some b → Avoids [v] b:=fun b hb=>QS (h b hb)
theorem Xf {v : Value} {b : Nat} (h : Qh v ≠ some b) : ∀ k,Qh v = some k → Avoids [.pointer (some ⟨b,0,none⟩)] k:=fun k hk=>QA (fun e=>h (by rw [e]; exact hk))
theorem Xo {v : Value} {w0 : World} (h : Ext w0 w) (c : Chg [v] w w') (hf : ∀ b,Qh v = some b → w0.heap.size ≤ b) : Ext w0 w':=Chg.fresh h c (fun x hx n e=>by rcases List.mem_singleton.1 hx with rfl; exact hf n e)
theorem QO {b : Nat} {w0 : World} (h : Ext w0 w) (c : Chg [.pointer (some ⟨b,0,none⟩)] w w') (hf : w0.heap.size ≤ b) : Ext w0 w':=Chg.fresh h c (fun x hx n e=>by rcases List.mem_singleton.1 hx with rfl; simp [Qh] at e; omega)
end
end Go.Gw
namespace Go.Gw
def app {α : Type} (xs ys : List α) : Option (List α):=if xs.length + ys.length ≤ 1073741824 then some (xs ++ ys) else none
def Qcy {α : Type} (xs ys : List α) : Option (List α):=if xs.length + ys.length ≤ 17592186044416 then some (xs ++ ys) else none
theorem QDa {α : Type} {xs ys zs : List α} (h : Qcy xs ys = some zs) : xs.length + ys.length ≤ 17592186044416 ∧ zs = xs ++ ys:=by
  unfold Qcy at h
  split at h
  · exact ⟨by assumption,(Option.some.inj h).symm⟩
  · cases h
theorem Qmq {α : Type} {xs ys zs : List α} (h : app xs ys = some zs) : xs.length + ys.length ≤ 1073741824 ∧ zs = xs ++ ys:=by
  unfold app at h
  split at h
  · rename_i hc; exact ⟨hc,by cases h; rfl⟩
  · cases h
def quo (a b : Int) : Option Int:=if b = 0 then none else some (w64 (a.tdiv b))
def rem (a b : Int) : Option Int:=if b = 0 then none else some (a.tmod b)
theorem QOw {a b c : Int} (h : quo a b = some c) : b ≠ 0 ∧ c = w64 (a.tdiv b):=by
  unfold quo at h; split at h
  · cases h
  · rename_i hb; exact ⟨hb,by cases h; rfl⟩
theorem QQj {a b c : Int} (h : rem a b = some c) : b ≠ 0 ∧ c = a.tmod b:=by
  unfold rem at h; split at h
  · cases h
  · rename_i hb; exact ⟨hb,by cases h; rfl⟩

section
variable {P : Program} [JD P] {n : Nat} {ρ : Env} {w : World}
variable {d : Option Nat} {t T U : TypeId} {p : String} {af : Array Edge} {gu : Option (Nat × Bool)} {x y z : Operand}
theorem QCi {a b c : Int} (h : quo a b = some c) (hx : QC n ρ x = .int .i64 a) (hy : QC n ρ y = .int .i64 b) : Yl P n ρ ⟨d,.binOp .quo T x y U,t,p,af,gu⟩ w (.int .i64 c):=by
  obtain ⟨hb,rfl⟩:=QOw h; exact QUw hb hx hy
theorem QUy {a b c : Int} (h : rem a b = some c) (hx : QC n ρ x = .int .i64 a) (hy : QC n ρ y = .int .i64 b) : Yl P n ρ ⟨d,.binOp .rem T x y U,t,p,af,gu⟩ w (.int .i64 c):=by
  obtain ⟨hb,rfl⟩:=QQj h; exact QUx hb hx hy

theorem QEj {α : Type} [Rep α] {e : TypeId} {bytes : Nat} {z : Value} {L : List Value} {len : Nat} {xs : List α} {cells : List Value} {parts : Array (Nat × Operand)} {K : Value → World → Prop}
    (hu : P.underlying T = some (.slice e)) (hi : EInfo P e (Rep.n α) bytes z) (hsmall : Nat.ble (len * Rep.n α) 16777216 = true)
    (hf : JS (fun i=>some (i * Rep.n α,Rep.n α)) (Qep z.cells.toList (len * Rep.n α)) (parts.toList.map fun q=>(q.1,QC n ρ q.2)) = some cells)
    (hel : Elems L w cells xs) (hl : xs.length = len) (hlt : LtL L w)
    (h : ∀ b w',Ext w w' → SlRd L w' (.slice (some ⟨b,0,none⟩) len len) xs → K (.slice (some ⟨b,0,none⟩) len len) w') : Eff P ⟨d,.buildSlice T len parts,t,p,af,gu⟩ n ρ w K :=
  Qtc hu hi hsmall hf hel hl fun b w' hb he ho _=>h b w' he (ho.rd fun k hk x hx e=>by
    have:=hlt x hx k e
    simp [Qh] at hk; omega)

theorem Y9 {α : Type} [Rep α] {e : TypeId} {bytes : Nat} {zz : Value} {L : List Value} {v vx : Value} {xs ys zs : List α} {K : Value → World → Prop} {aT : Array TypeId}
    (hu : P.underlying T = some (.slice e)) (hi : EInfo P e (Rep.n α) bytes zz) (hbm : Nat.ble bytes 65536 = true) (hT : aT = #[T,T]) (hx : QC n ρ x = v) (hy : QC n ρ y = vx) (hown : Own e (v :: L) w v xs) (hs : SlRd (v :: L) w vx ys)
    (hz : app xs ys = some zs)
    (h : ∀ v' w',Chg [v] w w' → (∀ b,Qh v' = some b → Qh v = some b ∨ w.heap.size ≤ b) → Own e (v' :: L) w' v' zs → K v' w') : Eff P ⟨d,.call ⟨.builtin .append,#[x,y],aT⟩,t,p,af,gu⟩ n ρ w K:=by
  obtain ⟨hb,rfl⟩:=Qmq hz
  have hbm : bytes ≤ 65536:=by simpa using hbm
  have : (xs.length + ys.length) * bytes ≤ 1073741824 * 65536:=Nat.mul_le_mul hb hbm
  exact QEh hu hi hT hx hy hown hs (by omega) (by unfold maxLen; omega) h
end
end Go.Gw
namespace Go.Gw
section
variable {P : Program} [JD P] {n : Nat} {ρ : Env} {w : World}
variable {d : Option Nat} {t T U : TypeId} {p : String} {af : Array Edge} {gu : Option (Nat × Bool)} {x y z : Operand}
theorem Jz {a b : Bool} (ha : a = true) (hb : b = true) : (a && b) = true:=by subst ha; subst hb; rfl
theorem Ys {b : Bool} (h : b = false) : (!b) = true:=by subst h; rfl
theorem QU {α : Type} [Rep α] {e : TypeId} {L : List Value} {w2 : World} {v : Value} {xs : List α} {aT : Array TypeId} (hT : aT[0]? = some T) (hu : P.underlying T = some (.slice e)) (hs : SlRd L w2 v xs) (hx : QC n ρ x = v) :
    Yl P n ρ ⟨d,.call ⟨.builtin .len,#[x],aT⟩,t,p,af,gu⟩ w (.int .i64 xs.length):=by
  obtain ⟨a,c,rfl,_⟩:=hs.shape; exact QCf hT hu hx
theorem Qbp {α : Type} [Rep α] {e e' : TypeId} {L : List Value} {w2 : World} {v : Value} {xs : List α} {aT : Array TypeId} (hT : aT[0]? = some T) (hu : P.underlying T = some (.slice e)) (hs : Own e' L w2 v xs) (hx : QC n ρ x = v) :
    Yl P n ρ ⟨d,.call ⟨.builtin .len,#[x],aT⟩,t,p,af,gu⟩ w (.int .i64 xs.length):=by
  obtain ⟨a,c,rfl,_⟩:=hs.shape; exact QCf hT hu hx

omit [JD P] in
structure ZI (P : Program) (T : TypeId) (cs : List Value) : Prop where
  ex : ∃ i z,P.info? T = some i ∧ i.zero = some z ∧ z.cells.toList = cs
theorem Q9 {cs : List Value} {K : Value → World → Prop} (hZ : ZI P T cs)
    (h : ∀ b w',w.heap.size ≤ b → Ext w w' → Box w' b cs T → K (.pointer (some ⟨b,0,none⟩)) w') : Eff P ⟨d,.alloc T,t,p,af,gu⟩ n ρ w K:=by
  obtain ⟨i,z,hi,hz,hc⟩:=hZ.ex
  exact QEf hi hz fun b w' hb he hB=>h b w' hb he (hc ▸ hB)
theorem Xr {v : Value} {cs : List Value} {K : Value → World → Prop} (hx : QC n ρ x = v) (hc : v.cells.toList = cs)
    (h : ∀ b w',w.heap.size ≤ b → Ext w w' → Box w' b cs T → K (.pointer (some ⟨b,0,none⟩)) w') : Eff P ⟨d,.box T x,t,p,af,gu⟩ n ρ w K :=
  QEi hx fun b w' hb he hB=>h b w' hb he (hc ▸ hB)
theorem YW {v : Value} {b off : Nat} {cs cs' vs : List Value} {T' : TypeId} {K : Value → World → Prop} {k : Nat} (hs : XV P T k) (hv : v.cells.toList = vs) (hk : vs.length = k) (hx : QC n ρ x = .pointer (some ⟨b, off, none⟩)) (hy : QC n ρ y = v)
    (hb : Box w b cs T') (hl : Nat.ble (off + k) cs.length = true) (h1 : ∀ u ∈ vs,u.oneCell' = true) (hcs : YY cs off vs = cs')
    (h : ∀ w',Chg [.pointer (some ⟨b,0,none⟩)] w w' → Box w' b cs' T' → K undef w') : Eff P ⟨d,.store T x y,t,p,af,gu⟩ n ρ w K:=by
  subst hv; subst hk; subst hcs
  have e : v.cells.toList.length = v.cells.size:=by simp
  exact QEk (by rw [← e]; exact hs) hx hy hb (by rw [← e]; simpa using hl) h1 h
theorem QG : ∀ u ∈ ([] : List Value),u.oneCell' = true:=fun _ h=>by cases h
theorem Qe {v : Value} {vs : List Value} (h : v.oneCell' = true) (hs : ∀ u ∈ vs,u.oneCell' = true) : ∀ u ∈ v :: vs,u.oneCell' = true:=fun u hu=>by
  rcases List.mem_cons.1 hu with rfl | hu
  · exact h
  · exact hs u hu
theorem SlRd.one1 {α : Type} [Rep α] {L : List Value} {v : Value} {xs : List α} (h : SlRd L w v xs) : v.oneCell' = true:=by obtain ⟨a,c,rfl,_⟩:=h.shape; rfl
theorem Own.one1 {α : Type} [Rep α] {e : TypeId} {L : List Value} {v : Value} {xs : List α} (h : Own e L w v xs) : v.oneCell' = true:=by obtain ⟨a,c,rfl,_⟩:=h.shape; rfl
theorem Qm {L : List Value} {w' : World} {b : Nat} (he : Ext w w') (hb : w.heap.size ≤ b) : Stepp L w (.pointer (some ⟨b,0,none⟩) :: L) w':=Stepp.add _ he (fun k hk=>by simp [Qh] at hk; omega)
theorem XT {L : List Value} (w : World) : Stepp L w (.slice none 0 0 :: L) w:=Stepp.add _ (Chg.refl [] _) (fun _ h=>by cases h)
theorem QR {b b' : Nat} {cs : List Value} {T : TypeId} (h : Box w b' cs T) (hb : w.heap.size ≤ b) : b ≠ b':=fun e=>by have:=h.lt; omega
theorem Xa {w0 : World} {b : Nat} (h : Ext w0 w) (hb : w.heap.size ≤ b) : w0.heap.size ≤ b:=Nat.le_trans h.size hb

section
variable {i1 i2 i3 i4 i5 i6 i7 i8 i9 : Nat} {x1 x2 x3 x4 x5 x6 x7 x8 x9 : Operand} {v1 v2 v3 v4 v5 v6 v7 v8 v9 : Value}
end
end
end Go.Gw

end
