/- A range over a function: the walk of its body, of the function that is ranged over, of the calls of yield. No condition. -/
import Derived.Test.YtekkhkapnapelaaGwLib11
import Derived.RangeFuncLeaves
import Derived.RangeFuncRecord
import Derived.TacticsIn
import Derived.OrdersIn
set_option linter.unusedVariables false
set_option linter.unusedSimpArgs false
set_option linter.unusedSectionVars false
namespace Go.Gw
open Go

def FR (R : Option Nat) : Fence:={ Fence.wide with round:=R }
def YC (n : Nat) (ρ : Env) (ds : List Deferred) : Act:=⟨(QT n ρ).tmps,ds⟩
theorem JY (n : Nat) (ρ : Env) (ds : List Deferred) (d : Option Nat) (v : Value) : (YC n ρ ds).put d v = YC n (Xa ρ d v) ds:=by
  have h:=Zl n ρ d v
  unfold YC
  rw [← h]
  cases d <;> rfl
theorem Qfj (n : Nat) (ρ : Env) (ds : List Deferred) : (YC n ρ ds).eval = Qo n ρ:=by rw [← Qav]; rfl

structure PostD where
  norm : List Deferred → Env → World → Prop
  ex : Nat → List Deferred → Env → World → Prop
  ret : List Deferred → Env → World → Prop
def PostD.Q (n : Nat) (q : PostD) : Exit → Act → World → Prop
  | .normal,a,w=>∃ ds ρ,a = YC n ρ ds ∧ q.norm ds ρ w
  | .exit i,a,w=>∃ ds ρ,a = YC n ρ ds ∧ q.ex i ds ρ w
  | .ret,a,w=>∃ ds ρ,a = YC n ρ ds ∧ q.ret ds ρ w
  | _,_,_=>False
def WD (P : Program) (R : Option Nat) (n : Nat) (c : Code) (q : PostD) (ds : List Deferred) (ρ : Env) (w : World) : Prop:=c.wpIn (FR R) 0 P (q.Q n) (YC n ρ ds) w

section
variable {P : Program} {R : Option Nat} {n : Nat} {q : PostD} {ds : List Deferred} {ρ : Env} {w : World}
theorem Qpa (h : q.norm ds ρ w) : WD P R n .skip q ds ρ w:=wpIn_skip ⟨ds,ρ,rfl,h⟩
theorem Qcm (h : q.ret ds ρ w) : WD P R n .ret q ds ρ w:=wpIn_ret ⟨ds,ρ,rfl,h⟩
theorem ZS {x y : Code} (h : ∀ K : List Deferred → Env → World → Prop,(∀ ds ρ w,WD P R n y q ds ρ w → K ds ρ w) → WD P R n x ⟨K,q.ex,q.ret⟩ ds ρ w) : WD P R n (.seq x y) q ds ρ w:=by
  refine wpIn_seq (wpIn_mono (h (fun ds ρ w=>WD P R n y q ds ρ w) fun _ _ _ h=>h) fun e a w he=>?_)
  cases e <;> first
    | exact he
    | (obtain ⟨ds,ρ,ha,hq⟩:=he; subst ha; exact hq)
theorem Qoy {c : Operand} {x y : Code} {b : Bool} (hc : Qo n ρ c = .bool b) (ht : b = true → WD P R n x q ds ρ w) (hf : b = false → WD P R n y q ds ρ w) : WD P R n (.cond c x y) q ds ρ w :=
  wpIn_cond_split (by rw [Qfj]; exact hc) ht hf
theorem Qju {i : Nat} {c : Code} (h : WD P R n c ⟨q.norm,fun j=>bif Nat.beq j i then q.norm else q.ex j,q.ret⟩ ds ρ w) : WD P R n (.block i c) q ds ρ w :=
  wpIn_block (wpIn_mono h fun e a w he=>by
    cases e with
    | exit j =>
      obtain ⟨ds,ρ,ha,hq⟩:=he
      subst ha
      simp only [Exit.inBlock]
      by_cases hj : j = i
      · subst hj; simp only [Qbx,cond_true] at hq; rw [if_pos rfl]; exact ⟨ds,ρ,rfl,hq⟩
      · rw [if_neg hj]; simp only [ZW hj,cond_false] at hq; exact ⟨ds,ρ,rfl,hq⟩
    | _=>exact he)

/-! ### Operations, calls of yield among them -/
def EffI (P : Program) (o : Oper) (n : Nat) (ρ : Env) (w : World) (K : Value → World → Prop) : Prop :=
  match (execOp (Qo n ρ) o).run P w with
  | .ok (.value v) w'=>K v w'
  | .ok .skip w'=>K undef w'
  | .ok (.enter f args) w'=>Calls P f args w' (Ret K)
  | .ok (.round l f tmps a b) w'=>RoundIn Fence.wide 0 P l f tmps a b w' (Ret K)
  | _=>False
theorem Eff.toI {o : Oper} {K : Value → World → Prop} (h : Eff P o n ρ w K) : EffI P o n ρ w K:=by
  unfold Eff at h; unfold EffI
  split at h <;> simp_all
theorem EffI.mono {o : Oper} {K K' : Value → World → Prop} (h : EffI P o n ρ w K) (hm : ∀ v w',K v w' → K' v w') : EffI P o n ρ w K':=by
  unfold EffI at *
  split at h
  · exact hm _ _ h
  · exact hm _ _ h
  · exact Calls.mono h fun e w' he=>by cases e <;> first | exact hm _ _ he | exact he
  · exact RoundIn.mono h fun e w' he=>by cases e <;> first | exact hm _ _ he | exact he
  · exact h.elim
theorem EffI.wpIn {o : Oper} {K : Value → World → Prop} {K' : Act → World → Prop} {Q : Exit → Act → World → Prop} (hd : ∀ c,o.op ≠ .defer c) (h : EffI P o n ρ w K) (hK : ∀ v w',K v w' → K' (YC n (Xa ρ o.dst v) ds) w') : o.wpIn (FR R) 0 P (YC n ρ ds) w K' Q:=by
  refine ⟨fun _ _=>trivial,?_⟩
  rw [show (FR R).round = R from rfl,Oper.semAt_eq R _ o hd,Qfj]
  unfold EffI at h
  split at h
  · rename_i v w' hr; simp only [hr,Oper.uponIn_value,JY]; exact hK _ _ h
  · rename_i w' hr; simp only [hr,Oper.uponIn_skip,JY]; exact hK _ _ h
  · rename_i f args w' hr
    simp only [hr,Oper.uponIn_enter]
    refine ⟨fun hs=>by simp [FR,Fence.wide] at hs,?_⟩
    have h2 : CallsIn Fence.wide (0 - 1) P f args w' (Ret K):=callsIn_wide.2 h
    exact CallsIn.mono (F:=FR R) h2 fun e w'' he=>by
      cases e with
      | returned v=>simp only [JY]; exact hK _ _ he
      | _=>exact he.elim
  · rename_i l f tmps a b w' hr
    simp only [hr,Oper.uponIn_round]
    refine ⟨fun hs=>by simp [FR,Fence.wide] at hs,?_⟩
    exact RoundIn.mono (F:=FR R) h fun e w'' he=>by
      cases e with
      | returned v=>simp only [JY]; exact hK _ _ he
      | _=>exact he.elim
  · exact h.elim
def StpI (P : Program) (n : Nat) (ops : Array Oper) (o : Oper) (ρ : Env) (w : World) (K : Env → World → Prop) : Prop :=
  if Xl ops o n ρ then EffI P o n ρ w (fun v w'=>K (Xa ρ o.dst v) w') else K (Xa ρ o.dst undef) w
theorem Stp.toI {ops : Array Oper} {o : Oper} {K : Env → World → Prop} (h : Stp P n ops o ρ w K) : StpI P n ops o ρ w K:=by
  unfold Stp at h; unfold StpI
  split
  · rename_i hw; rw [if_pos hw] at h; exact h.toI
  · rename_i hw; rw [if_neg hw] at h; exact h
theorem StpI.mono {ops : Array Oper} {o : Oper} {K K' : Env → World → Prop} (h : StpI P n ops o ρ w K) (hm : ∀ ρ w,K ρ w → K' ρ w) : StpI P n ops o ρ w K':=by
  unfold StpI at *
  split
  · rename_i hw; rw [if_pos hw] at h; exact h.mono fun _ _ h=>hm _ _ h
  · rename_i hw; rw [if_neg hw] at h; exact hm _ _ h
def Qeo (ops : List Oper) : Bool:=ops.all fun o=>match o.op with | .defer _=>false | _=>true
theorem Qmq {ops : List Oper} (h : Qeo ops = true) {o : Oper} (ho : o ∈ ops) : ∀ c,o.op ≠ .defer c:=by
  intro c hc
  have:=List.all_eq_true.1 h o ho
  rw [hc] at this; cases this
theorem T0.toListIn {ops : Array Oper} {K : Env → World → Prop} {Q : Exit → Act → World → Prop} (hK : ∀ ρ w, K ρ w → Q .normal (YC n ρ ds) w) :
    ∀ (l : List Oper) (ρ : Env) (w : World),(∀ o ∈ l,∀ c,o.op ≠ .defer c) → T0 P n ops K l ρ w → wpListIn (FR R) 0 P ops Q l (YC n ρ ds) w
  | [],ρ,w,_,h=>hK ρ w h
  | o :: os,ρ,w,hd,h=>by
    have h1 : Stp P n ops o ρ w (T0 P n ops K os):=h
    unfold Stp Xl at h1
    simp only [wpListIn]
    show (if Region.wanted o (yielded ops (QT n ρ).tmps) then _ else _)
    split
    · rename_i hw
      rw [if_pos hw] at h1
      exact h1.toI.wpIn (hd o (List.mem_cons_self ..)) fun v w' h'=>T0.toListIn hK os _ _ (fun x hx=>hd x (List.mem_cons_of_mem _ hx)) h'
    · rename_i hw
      rw [if_neg hw] at h1
      refine ⟨fun _ _=>trivial,?_⟩
      rw [JY]
      exact T0.toListIn hK os _ _ (fun x hx=>hd x (List.mem_cons_of_mem _ hx)) h1
theorem ZR {id : Nat} {ops : List Oper} (hd : Qeo ops = true) (h : T0 P n ops.toArray (q.norm ds) ops ρ w) : WD P R n (.region id ops.toArray false) q ds ρ w :=
  wpIn_region_lit (T0.toListIn (fun ρ _ h'=>⟨ds,ρ,rfl,h'⟩) ops ρ w (fun _ ho=>Qmq hd ho) h)

/-! ### A region that draws its order, told whole -/
def TA (P : Program) (n : Nat) (ops : List Oper) (K : Env → World → Prop) : Nat → Array Bool → Env → World → Prop
  | 0,listed,ρ,w=>Region.ready .any ops.toArray listed = [] ∧ K ρ w
  | fuel + 1,listed,ρ,w=>Region.ready .any ops.toArray listed ≠ [] ∧ ∀ i ∈ Region.ready .any ops.toArray listed,∃ o,ops[i]? = some o ∧ StpI P n ops.toArray o ρ w (TA P n ops K fuel (listed.setIfInBounds i true))
theorem TA.toAny {ops : List Oper} {K : Env → World → Prop} {Q : Exit → Act → World → Prop} (hd : Qeo ops = true) (hK : ∀ ρ w, K ρ w → Q .normal (YC n ρ ds) w) :
    ∀ (fuel : Nat) (listed : Array Bool) (ρ : Env) (w : World),TA P n ops K fuel listed ρ w → wpAnyIn (FR R) 0 P .any ops.toArray Q fuel listed (YC n ρ ds) w
  | 0,listed,ρ,w,h=>⟨by simpa using h.1,hK ρ w h.2⟩
  | fuel + 1,listed,ρ,w,h=>by
    refine wpAnyIn_all rfl h.1 fun i hi=>?_
    obtain ⟨o,ho,hs⟩:=h.2 i hi
    have ho' : ops.toArray[i]? = some o:=by simpa using ho
    unfold StpI Xl at hs
    simp only [wpOpIn,ho']
    show (if Region.wanted o (yielded ops.toArray (QT n ρ).tmps) then _ else _)
    split
    · rename_i hw
      rw [if_pos hw] at hs
      exact hs.wpIn (Qmq hd (List.mem_of_getElem? ho)) fun v w' h'=>TA.toAny hd hK fuel _ _ _ h'
    · rename_i hw
      rw [if_neg hw] at hs
      refine ⟨fun _ _=>trivial,?_⟩
      rw [JY]
      exact TA.toAny hd hK fuel _ _ _ hs
theorem Qow {q : Post} {id : Nat} {ops : List Oper} (hm : P.follows .mixedOrders = true) (hd : Qeo ops = true) (h : ∀ w1,Ext w w1 → TA P n ops q.norm ops.toArray.size (Array.replicate ops.toArray.size false) ρ w1) : WC P n (.region id ops.toArray true) q ρ w:=by
  refine (wpIn_wide (n:=0)).1 ?_
  exact wpIn_region_any (F:=FR none) hm (TA.toAny (R:=none) (ds:=[]) hd (fun ρ w h'=>⟨ρ,rfl,h'⟩) _ _ ρ _ (h _ (Ext.drew w)))
section
variable {ops : List Oper} {K : Env → World → Prop} {fuel : Nat} {listed : Array Bool} {i j : Nat} {o o2 : Oper} {v u : Value}
theorem Qjm (hr : Region.ready .any ops.toArray listed = []) (h : K ρ w) : TA P n ops K 0 listed ρ w:=⟨hr,h⟩
theorem Ju (hr : Region.ready .any ops.toArray listed = [i]) (ho : ops[i]? = some o) (h : StpI P n ops.toArray o ρ w (TA P n ops K fuel (listed.setIfInBounds i true))) : TA P n ops K (fuel + 1) listed ρ w :=
  ⟨by rw [hr]; simp, fun k hk => by rw [hr] at hk; obtain rfl : k = i := by simpa using hk
                                    exact ⟨o,ho,h⟩⟩
theorem Jv (hr : Region.ready .any ops.toArray listed = [i]) (ho : ops[i]? = some o) (hw : Xl ops.toArray o n ρ = true) (hy : Yl P n ρ o w v) (h : TA P n ops K fuel (listed.setIfInBounds i true) (Xa ρ o.dst v) w) : TA P n ops K (fuel + 1) listed ρ w :=
  Ju hr ho (by unfold StpI; rw [if_pos hw]; unfold EffI; unfold Yl at hy; rw [hy]; exact h)
theorem Qjp (hr : Region.ready .any ops.toArray listed = [i]) (ho : ops[i]? = some o) (hw : Xl ops.toArray o n ρ = false) (h : TA P n ops K fuel (listed.setIfInBounds i true) (Xa ρ o.dst undef) w) : TA P n ops K (fuel + 1) listed ρ w :=
  Ju hr ho (by unfold StpI; rw [if_neg (by simp [hw])]; exact h)
theorem Qjn (hr : Region.ready .any ops.toArray listed = [i]) (ho : ops[i]? = some o) (hw : Xl ops.toArray o n ρ = true) (h : EffI P o n ρ w (fun v w'=>TA P n ops K fuel (listed.setIfInBounds i true) (Xa ρ o.dst v) w')) : TA P n ops K (fuel + 1) listed ρ w :=
  Ju hr ho (by unfold StpI; rw [if_pos hw]; exact h)
theorem Qns {a b : Nat} (hab : a ≠ b) (v u : Value) : Xa (Xa ρ (some b) u) (some a) v = Xa (Xa ρ (some a) v) (some b) u:=by
  funext k
  simp only [Xa,JR]
  by_cases h1 : k = a
  · subst h1; simp [Qbx,ZW hab]
  · by_cases h2 : k = b
    · subst h2; simp [Qbx,ZW h1]
    · simp [ZW h1,ZW h2]
def Yq (P : Program) (n : Nat) (ops : List Oper) (o : Oper) (ρ : Env) (w : World) (v : Value) : Prop:=(Xl ops.toArray o n ρ = true ∧ Yl P n ρ o w v) ∨ (Xl ops.toArray o n ρ = false ∧ v = undef)
theorem Yq.stp {K : Env → World → Prop} (hy : Yq P n ops o ρ w v) (h : K (Xa ρ o.dst v) w) : StpI P n ops.toArray o ρ w K:=by
  unfold StpI
  rcases hy with ⟨hw,hy⟩ | ⟨hw,rfl⟩
  · rw [if_pos hw]; unfold EffI; unfold Yl at hy; rw [hy]; exact h
  · rw [if_neg (by simp [hw])]; exact h
theorem Qjo {a b : Nat} (hr : Region.ready .any ops.toArray listed = [i, j]) (hri : Region.ready .any ops.toArray (listed.setIfInBounds i true) = [j]) (hrj : Region.ready .any ops.toArray (listed.setIfInBounds j true) = [i])
    (ho : ops[i]? = some o) (ho2 : ops[j]? = some o2) (hd : o.dst = some a) (hd2 : o2.dst = some b) (hab : a ≠ b) (hij : i ≠ j) (h1 : Yq P n ops o ρ w v) (h2 : Yq P n ops o2 (Xa ρ o.dst v) w u) (h3 : Yq P n ops o2 ρ w u) (h4 : Yq P n ops o (Xa ρ o2.dst u) w v)
    (h : TA P n ops K fuel ((listed.setIfInBounds i true).setIfInBounds j true) (Xa (Xa ρ o.dst v) o2.dst u) w) : TA P n ops K (fuel + 2) listed ρ w:=by
  refine ⟨by rw [hr]; simp,fun k hk=>?_⟩
  rw [hr] at hk
  rcases List.mem_cons.1 hk with rfl | hk
  · exact ⟨o,ho,h1.stp (Ju hri ho2 (h2.stp h))⟩
  · obtain rfl : k = j:=by simpa using hk
    refine ⟨o2,ho2,h3.stp (Ju hrj ho (h4.stp ?_))⟩
    rw [hd,hd2] at *
    rw [Qns hab,Array.setIfInBounds_comm _ _ hij.symm]
    exact h
end

/-! ### The record of a loop -/
def RecAt (w : World) (l : Nat) (r : Loop) : Prop:=w.heap[l]? = some (.loop r)
theorem RecAt.lt {l : Nat} {r : Loop} (h : RecAt w l r) : l < w.heap.size:=ZV h
theorem RecAt.chg {w' : World} {l : Nat} {r : Loop} {H : List Value} (h : RecAt w l r) (c : Chg H w w') (hA : Avoids H l) : RecAt w' l r:=(c.block l h.lt hA).trans h
theorem RecAt.ext {w' : World} {l : Nat} {r : Loop} (h : RecAt w l r) (c : Ext w w') : RecAt w' l r:=h.chg c (Avoids.nil _)
def DefAt (w : World) (l : Nat) : Prop:=w.heap[l]? = some (.deferred (some []))
theorem DefAt.lt {l : Nat} (h : DefAt w l) : l < w.heap.size:=ZV h
theorem DefAt.chg {w' : World} {l : Nat} {H : List Value} (h : DefAt w l) (c : Chg H w w') (hA : Avoids H l) : DefAt w' l:=(c.block l h.lt hA).trans h
theorem DefAt.ext {w' : World} {l : Nat} (h : DefAt w l) (c : Ext w w') : DefAt w' l:=h.chg c (Avoids.nil _)
theorem Qbb {l : Nat} {o : Obj} : Chg [.pointer (some ⟨l,0,none⟩)] w (w.putObj l o):=by
  refine ⟨rfl,rfl,rfl,by simp,fun b hb hA=>?_⟩
  have hne : b ≠ l:=fun e=>hA _ (List.mem_singleton.2 rfl) (by simp [Qn,e])
  exact World.putObj_heap_other hne
theorem RecAt.put {l : Nat} {r r' : Loop} (h : RecAt w l r) : RecAt (w.putObj l (.loop r')) l r':=World.putObj_heap_same h.lt
end

/-! ### The statement -/
section
variable {P : Program} {n : Nat} {ds : List Deferred} {ρ : Env} {w : World}
def Qho (q : PostD) (ds : List Deferred) (ρ : Env) (l : Nat) (w : World) : Prop :=
  ∃ r,RecAt w l r ∧ r.state ≠ .busy ∧ match r.pending with
    | none=>∀ w',Chg [.pointer (some ⟨l,0,none⟩)] w w' → q.norm ds ρ w'
    | some .ret=>∀ w',Chg [.pointer (some ⟨l,0,none⟩)] w w' → q.ret ds ρ w'
    | _=>False
theorem Qoz {g : Operand} {f nf : Nat} {fn : Func} {cf : Code} {caps : List Value} {ps : Array Tmp} {assign body : Code} {q : PostD} (hg : Qo n ρ g = .func (.func f) #[] caps.toArray)
    (hf : P.funcs[f]? = some fn) (hname : (fn.name == "runtime.NumGoroutine") = false) (hb : fn.body = some cf) (hn : fn.ntmps = nf) (hl : Nat.ble (caps.length + 1) nf = true) (hres : fn.results = #[])
    (h : ∀ (fid : FuncId) (w1 : World) (l D : Nat),D = w.heap.size → l = w.heap.size + 1 → Ext w w1 → RecAt w1 l ⟨.ready,none,fid,(QT n ρ).tmps,ps,assign,body,D⟩ → DefAt w1 D →
      WC P nf cf ⟨fun _ w'=>Qho q ({ target:=.collected D,args:=#[] } :: ds) ρ l w',fun _ _ _=>False,fun _ w'=>Qho q ({ target:=.collected D,args:=#[] } :: ds) ρ l w'⟩ (fun i=>(.func (.yield l) #[] #[] :: caps).getD i undef) w1) :
    WD P none n (.rangeFunc g ps assign body) q ds ρ w:=by
  refine wpIn_rangeFunc (F:=FR none) fun fid _=>?_
  obtain ⟨W1,hW1⟩ : ∃ W1,(w.alloc (.deferred (some []))).alloc (.loop ⟨.ready,none,fid,(QT n ρ).tmps,ps,assign,body,w.heap.size⟩) = W1:=⟨_,rfl⟩
  have hext : Ext w W1:=by rw [← hW1]; exact Chg.trans (Ext.alloc w _) (Ext.alloc _ _)
  have hL1 : RecAt W1 (w.heap.size + 1) ⟨.ready,none,fid,(QT n ρ).tmps,ps,assign,body,w.heap.size⟩:=by
    rw [← hW1]
    have:=World.alloc_heap_new (w.alloc (.deferred (some []))) (.loop ⟨.ready,none,fid,(QT n ρ).tmps,ps,assign,body,w.heap.size⟩)
    unfold RecAt
    rwa [World.size_alloc] at this
  have hK1 : DefAt W1 w.heap.size:=by
    rw [← hW1]
    show ((w.heap.push _).push _)[w.heap.size]? = _
    rw [Array.getElem?_push_lt (by simp)]
    simp
  refine ⟨w.heap.size + 1,[{ target:=.collected w.heap.size,args:=#[] }],W1,{ target:=.fn (.func f) caps.toArray,args:=#[.func (.yield (w.heap.size + 1)) #[] #[]] },W1,f,
    #[.func (.yield (w.heap.size + 1)) #[] #[]] ++ caps.toArray,W1,?_,?_,fun _ _=>trivial,?_,fun hs=>by simp [FR,Fence.wide] at hs,?_⟩
  · rw [← hW1]; exact run_enterLoop_outer _ _ _ _ _
  · rw [Qfj]
    have he : Qo n ρ g = .func (.func f) #[] caps.toArray:=hg
    simp only [resolve,rangeCall,he]
    simp [Deferred.ofValue,Qo,go_sem]
  · simp [invoke,go_sem,MuLone.run_callFunc_enter hf hname hb]
  · have hc:=h fid W1 (w.heap.size + 1) w.heap.size rfl rfl hext hL1 hK1
    suffices hcalls : Calls P f (#[.func (.yield (w.heap.size + 1)) #[] #[]] ++ caps.toArray) W1 (rangePost (FR none) 0 P (w.heap.size + 1) (q.Q n) { (YC n ρ ds) with defers:=[{ target:=.collected w.heap.size,args:=#[] }] ++ ds }) from (callsIn_wide (n:=0 - 1)).2 hcalls
    refine calls_of_wp hf hb ?_
    have e1 : #[Value.func (.yield (w.heap.size + 1)) #[] #[]] ++ caps.toArray = (Value.func (.yield (w.heap.size + 1)) #[] #[] :: caps).toArray:=by simp
    rw [e1,hn,Qfx _ nf (by simpa [Nat.ble_eq] using hl)]
    have hend : ∀ (ρ' : Env) (w' : World), Qho q ({ target := .collected w.heap.size, args := #[] } :: ds) ρ (w.heap.size + 1) w' →
        ∃ v,(results fn (QT nf ρ').tmps).run P w' = .ok v w' ∧ rangePost (FR none) 0 P (w.heap.size + 1) (q.Q n) { (YC n ρ ds) with defers:=[{ target:=.collected w.heap.size,args:=#[] }] ++ ds } (.returned v) w':=by
      intro ρ' w' ⟨r,hr,hst,hm⟩
      refine ⟨_,Qii (rs:=[]) (vs:=[]) (by rw [hres]) rfl trivial,r.pending,_,run_endLoop hr hst,?_⟩
      cases hp : r.pending with
      | none=>rw [hp] at hm; exact ⟨_,ρ,rfl,hm _ Qbb⟩
      | some c =>
        rw [hp] at hm
        cases c with
        | ret=>exact Qcm (R:=none) (q:=q) (hm _ Qbb)
        | _=>exact hm.elim
    refine wp_mono hc fun e a w' he=>?_
    cases e <;> first
      | exact he.elim
      | (obtain ⟨_,_,hf⟩:=he; exact hf.elim)
      | (obtain ⟨ρ', rfl, hq⟩ := he
         exact ⟨rfl,hend ρ' w' hq⟩)

theorem Qqa {d : Option Nat} {t : TypeId} {pp : String} {af : Array Edge} {gu : Option (Nat × Bool)} {y x : Operand} {aT : Array TypeId} {l m p D : Nat} {fid : FuncId} {v : Value} {ρr : Env} {assign body : Code} {K : Value → World → Prop}
    (hy : Qo n ρ y = .func (.yield l) #[] #[]) (hx : Qo n ρ x = v) (hr : RecAt w l ⟨.ready,none,fid,(QT m ρr).tmps,#[p],assign,body,D⟩)
    (h : WD P (some l) m assign ⟨fun ds ρ1 w1 => RecAt w1 l ⟨.ready, none, fid, (QT m ρr).tmps, #[p], assign, body, D⟩ ∧
        ∀ w2,Chg [.pointer (some ⟨l,0,none⟩)] w1 w2 → RecAt w2 l ⟨.busy,none,fid,(QT m ρr).tmps,#[p],assign,body,D⟩ →
          WD P (some l) m body ⟨fun _ _ w3=>RecAt w3 l ⟨.busy,none,fid,(QT m ρr).tmps,#[p],assign,body,D⟩ ∧ ∀ w4,Chg [.pointer (some ⟨l,0,none⟩)] w3 w4 → RecAt w4 l ⟨.ready,none,fid,(QT m ρr).tmps,#[p],assign,body,D⟩ → K (.bool true) w4,
            fun _ _ _ _=>False,
            fun _ _ w3=>RecAt w3 l ⟨.busy,none,fid,(QT m ρr).tmps,#[p],assign,body,D⟩ ∧ ∀ w4,Chg [.pointer (some ⟨l,0,none⟩)] w3 w4 → RecAt w4 l ⟨.done,some .ret,fid,(QT m ρr).tmps,#[p],assign,body,D⟩ → K (.bool false) w4⟩ ds ρ1 w2,
        fun _ _ _ _=>False,fun _ _ _=>False⟩ [] (JR ρr p v) w) : EffI P ⟨d,.call ⟨.value y,#[x],aT⟩,t,pp,af,gu⟩ n ρ w K:=by
  have hyl:=run_yield (P:=P) (args:=#[v]) hr (by simp)
  have hrun : (execOp (Qo n ρ) ⟨d,.call ⟨.value y,#[x],aT⟩,t,pp,af,gu⟩).run P w = .ok (.round l fid ((QT m (JR ρr p v)).tmps) assign body) w:=by
    have e0 : ((#[p].zip #[v]).foldl (fun tmps (t,a)=>tmps.setIfInBounds t a) (QT m ρr).tmps) = (QT m (JR ρr p v)).tmps:=by
      have:=Qjv m ρr p v
      simp only [Act.put] at this
      have h2:=congrArg Act.tmps this
      simpa using h2
    rw [e0] at hyl
    simp [execOp,resolve,Deferred.ofValue,invoke,hy,hx,hyl]
  unfold EffI
  rw [hrun]
  refine roundIn_of_wpIn (F:=Fence.wide) trivial ?_
  refine wpIn_mono h fun e a w1 he=>?_
  cases e <;> first
    | exact he.elim
    | (obtain ⟨_,_,_,hf⟩:=he; exact hf.elim)
    | skip
  obtain ⟨ds,ρ1,rfl,hr1,h2⟩:=he
  refine ⟨_,run_beginRound hr1 rfl,?_⟩
  refine wpIn_mono (h2 _ Qbb hr1.put) fun e a w3 he=>?_
  cases e <;> first
    | exact he.elim
    | (obtain ⟨_,_,_,hf⟩:=he; exact hf.elim)
    | (obtain ⟨_, _, _, hr3, h4⟩ := he
       exact ⟨_,_,run_endRound _ hr3,h4 _ Qbb hr3.put⟩)

theorem Qpo {f : FuncId} {fn : Func} {c : Code} {args : List Value} {rs : List ResultVar} {Φ : Value → World → Prop} (hf : P.funcs[f]? = some fn) (hb : fn.body = some c) (hn : fn.ntmps = n) (hl : Nat.ble args.length n = true)
    (hr : fn.results = rs.toArray) (hm : YZ rs n = true)
    (h : WD P none n c ⟨fun _ _ _=>False,fun _ _ _ _=>False,fun ds ρ w=>∃ D,ds = [{ target:=.collected D,args:=#[] }] ∧ DefAt w D ∧ ∀ w',Chg [.pointer (some ⟨D,0,none⟩)] w w' → ∃ vs,JW P ρ w' rs vs ∧ Φ (tup vs) w'⟩ [] (fun i=>args.getD i undef) w) : CallsTo P f args w Φ:=by
  refine (callsIn_wide (n:=0)).1 ?_
  refine callsIn_of_wp_marks (F:=Fence.wide) hf hb trivial ?_
  have hl : args.length ≤ n:=by simpa using hl
  rw [hn]
  have:=Qfx args n hl
  rw [this]
  refine wpIn_mono h fun e a w he=>?_
  cases e <;> first
    | exact he.elim
    | (obtain ⟨_,_,_,hf⟩:=he; exact hf.elim)
    | skip
  obtain ⟨ds,ρ,rfl,D,rfl,hD,hk⟩:=he
  obtain ⟨vs,hv,hΦ⟩:=hk _ Qbb
  refine ⟨by simp,.inl ⟨D,_,rfl,run_takeDeferred hD,?_⟩⟩
  exact ⟨_,Qii hr hm hv,hΦ⟩
end
end Go.Gw
namespace Go.Gw
open Go
section
variable {P : Program} {n : Nat} {ρ : Env} {w : World}
theorem Qvx {l D : Nat} {fid : FuncId} {tm : Array Value} {ps : Array Tmp} {a b : Code} (h : RecAt w l ⟨.ready,none,fid,tm,ps,a,b,D⟩) : ∃ rc : LoopState → Option Code → Loop,(∀ s p,rc s p = ⟨s,p,fid,tm,ps,a,b,D⟩) ∧ RecAt w l (rc .ready none) :=
  ⟨fun s p=>⟨s,p,fid,tm,ps,a,b,D⟩,fun _ _=>rfl,h⟩
theorem Qcn {L : List Value} {w' : World} {D l : Nat} (he : Ext w w') (hD : D = w.heap.size) (hl : l = w.heap.size + 1) : Stepp L w (.pointer (some ⟨l,0,none⟩) :: .pointer (some ⟨D,0,none⟩) :: L) w' :=
  ⟨he.mono (fun _ h=>by cases h),fun y hy k e=>by
    rcases List.mem_cons.1 hy with rfl | hy
    · simp [Qn] at e; exact .inr (by omega)
    · rcases List.mem_cons.1 hy with rfl | hy
      · simp [Qn] at e; exact .inr (by omega)
      · exact .inl (JN hy e)⟩
variable {d : Option Nat} {t : TypeId} {p : String} {af : Array Edge} {gu : Option (Nat × Bool)}
theorem Qqj {f nf : Nat} {fn : Func} {c : Code} {xs : Array Operand} {aT : Array TypeId} {args : List Value} {rs : List ResultVar} {K : Value → World → Prop} (hf : P.funcs[f]? = some fn) (hname : (fn.name == "runtime.NumGoroutine") = false) (hb : fn.body = some c)
    (ha : (xs.map (Qo n ρ)).toList = args) (hn : fn.ntmps = nf) (hl : Nat.ble args.length nf = true) (hr : fn.results = rs.toArray) (hm : YZ rs nf = true)
    (h : WC P nf c ⟨fun _ _=>False,fun _ _ _=>False,fun ρ' w'=>∃ vs,JW P ρ' w' rs vs ∧ K (tup vs) w'⟩ (fun i=>args.getD i undef) w) : Eff P ⟨d,.call ⟨.value (.func f),xs,aT⟩,t,p,af,gu⟩ n ρ w K :=
  Qm (Φ:=K) hf hname hb ha (QP hf hb hn hl hr hm h) (fun _ _ h=>h)
section
variable {ops : List Oper} {K : Env → World → Prop} {fuel : Nat} {listed : Array Bool} {i j : Nat} {o o2 : Oper} {v u : Value}
theorem Qot (hr : Region.ready .any ops.toArray listed = [i]) (ho : ops[i]? = some o) (hw : Xl ops.toArray o n ρ = true) (h : Eff P o n ρ w (fun v w'=>TA P n ops K fuel (listed.setIfInBounds i true) (Xa ρ o.dst v) w')) : TA P n ops K (fuel + 1) listed ρ w:=Qjn hr ho hw h.toI
theorem Qou {a b : Nat} {Φ : Value → World → Prop} (hr : Region.ready .any ops.toArray listed = [i, j]) (hri : Region.ready .any ops.toArray (listed.setIfInBounds i true) = [j]) (hrj : Region.ready .any ops.toArray (listed.setIfInBounds j true) = [i])
    (ho : ops[i]? = some o) (ho2 : ops[j]? = some o2) (hd : o.dst = some a) (hd2 : o2.dst = some b) (hab : a ≠ b) (hij : i ≠ j) (hw1 : Xl ops.toArray o n ρ = true) (hw2 : Xl ops.toArray o n (Xa ρ o2.dst u) = true)
    (h1 : Eff P o n ρ w Φ) (h2 : Eff P o n (Xa ρ o2.dst u) w Φ) (hq : Yq P n ops o2 ρ w u)
    (h : ∀ v w',Φ v w' → Yq P n ops o2 (Xa ρ o.dst v) w' u ∧ TA P n ops K fuel ((listed.setIfInBounds i true).setIfInBounds j true) (Xa (Xa ρ o.dst v) o2.dst u) w') : TA P n ops K (fuel + 2) listed ρ w:=by
  refine ⟨by rw [hr]; simp,fun k hk=>?_⟩
  rw [hr] at hk
  rcases List.mem_cons.1 hk with rfl | hk
  · refine ⟨o,ho,?_⟩
    unfold StpI
    rw [if_pos hw1]
    exact (h1.mono fun v w' hv=>Ju hri ho2 ((h v w' hv).1.stp (h v w' hv).2)).toI
  · obtain rfl : k = j:=by simpa using hk
    refine ⟨o2,ho2,hq.stp (Ju hrj ho ?_)⟩
    unfold StpI
    rw [if_pos hw2]
    refine (h2.mono fun v w' hv=>?_).toI
    have:=(h v w' hv).2
    rw [hd,hd2] at *
    rw [Qns hab,Array.setIfInBounds_comm _ _ hij.symm]
    exact this
end
end
section
variable {w : World}
theorem Qlw {b b' : Nat} (h : b' < w.heap.size) (hb : b = w.heap.size) : b ≠ b':=fun e=>by omega
theorem Qej {L : List Value} {b : Nat} (h : LtL L w) (hB : b < w.heap.size) : LtL (.pointer (some ⟨b,0,none⟩) :: L) w:=h.cons fun k hk=>by
  have e : b = k:=by simpa [Qn] using hk
  subst e; exact hB
theorem Qel {v v' : Value} {b : Nat} (hbl : ∀ b,Qn v' = some b → Qn v = some b ∨ w.heap.size ≤ b) (h : Qn v ≠ some b) (hB : b < w.heap.size) : Qn v' ≠ some b:=fun e=>by
  rcases hbl b e with h1 | h1
  · exact h h1
  · omega
end
end Go.Gw
