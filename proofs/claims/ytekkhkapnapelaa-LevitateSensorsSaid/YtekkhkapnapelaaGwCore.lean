/- Walking the model's code over environments: a piece of code, a region in the text's order, a region that draws its order, a loop by its step function. No condition. -/
import Derived.OrdersHeld
import Derived.Tactics
set_option linter.unusedVariables false
set_option linter.unusedSimpArgs false
set_option linter.unusedSectionVars false
namespace Go.Gw
open Go

abbrev Env:=Nat → Value
def JR (ρ : Env) (d : Nat) (v : Value) : Env:=fun i=>bif Nat.beq i d then v else ρ i
def Xa (ρ : Env) (d : Option Nat) (v : Value) : Env:=match d with | some d=>JR ρ d v | none=>ρ
def QT (n : Nat) (ρ : Env) : Act:=⟨Array.ofFn (n:=n) fun i=>ρ i.1,[]⟩
def Qo (n : Nat) (ρ : Env) : Operand → Value
  | .tmp t=>bif Nat.blt t n then ρ t else undef
  | .const v=>v
  | .global g=>.pointer (some ⟨g,0,none⟩)
  | .func f=>.func (.func f) #[] #[]

theorem Ql {α β : Type} (a : α) (f : α → Option β) : (some a).bind f = f a:=rfl
theorem Qbx (i : Nat) : Nat.beq i i = true:=by rw [Nat.beq_eq]
theorem ZW {i j : Nat} (h : i ≠ j) : Nat.beq i j = false:=by
  cases hb : Nat.beq i j with
  | false=>rfl
  | true=>rw [Nat.beq_eq] at hb; exact absurd hb h
theorem Qtu {i j : Nat} (h : i < j) : Nat.blt i j = true:=by rw [Nat.blt_eq]; exact h
theorem Qtt {i j : Nat} (h : j ≤ i) : Nat.blt i j = false:=by
  cases hb : Nat.blt i j with
  | false=>rfl
  | true=>rw [Nat.blt_eq] at hb; omega

theorem Qjv (n : Nat) (ρ : Env) (d : Nat) (v : Value) : (QT n ρ).put (some d) v = QT n (JR ρ d v):=by
  simp only [QT,Act.put]
  congr 1
  apply Array.ext
  · simp
  · intro i h1 h2
    simp only [Array.getElem_ofFn,JR]
    by_cases h : d = i
    · subst h; simp
    · rw [Array.getElem_setIfInBounds_ne (by simpa using h2) h]; simp [ZW (Ne.symm h)]

theorem Zl (n : Nat) (ρ : Env) (d : Option Nat) (v : Value) : (QT n ρ).put d v = QT n (Xa ρ d v):=by
  cases d with
  | none=>rfl
  | some d=>exact Qjv n ρ d v

theorem Qav (n : Nat) (ρ : Env) : (QT n ρ).eval = Qo n ρ:=by
  funext x
  cases x with
  | tmp t =>
    simp only [Act.eval,QT,Qo]
    by_cases h : t < n
    · simp [Array.getD,h,Qtu h]
    · simp [Array.getD,h,Qtt (Nat.le_of_not_lt h)]
  | const v=>rfl
  | global g=>rfl
  | func f=>rfl

theorem Qfx (args : List Value) (n : Nat) (h : args.length ≤ n) :
    ({ tmps:=args.toArray ++ Array.replicate (n - args.toArray.size) undef,defers:=[] } : Act) = QT n (fun i=>args.getD i undef):=by
  simp only [QT]
  congr 1
  apply Array.ext
  · simp; omega
  · intro i h1 h2
    simp only [Array.getElem_ofFn]
    simp at h1
    by_cases hi : i < args.length
    · rw [Array.getElem_append_left (by simpa using hi)]; simp [List.getD,hi]
    · rw [Array.getElem_append_right (by simpa using Nat.le_of_not_lt hi)]; simp [List.getD,hi]

def Ret (Φ : Value → World → Prop) : Ending → World → Prop
  | .returned v,w=>Φ v w
  | _,_=>False

abbrev CallsTo (P : Program) (f : FuncId) (args : List Value) (w : World) (Φ : Value → World → Prop) : Prop:=Calls P f args.toArray w (Ret Φ)

theorem CallsTo.mono {P : Program} {f : FuncId} {args : List Value} {w : World} {Φ Ψ : Value → World → Prop} (h : CallsTo P f args w Φ) (hm : ∀ v w',Φ v w' → Ψ v w') : CallsTo P f args w Ψ :=
  Calls.mono h fun e w' he=>by cases e <;> first | exact hm _ _ he | exact he

structure Post where
  norm : Env → World → Prop
  ex : Nat → Env → World → Prop
  ret : Env → World → Prop

def Post.Q (n : Nat) (q : Post) : Exit → Act → World → Prop
  | .normal,a,w=>∃ ρ,a = QT n ρ ∧ q.norm ρ w
  | .exit i,a,w=>∃ ρ,a = QT n ρ ∧ q.ex i ρ w
  | .ret,a,w=>∃ ρ,a = QT n ρ ∧ q.ret ρ w
  | _,_,_=>False

def WC (P : Program) (n : Nat) (c : Code) (q : Post) (ρ : Env) (w : World) : Prop:=c.wp P (q.Q n) (QT n ρ) w

section
variable {P : Program} {n : Nat} {q : Post} {ρ : Env} {w : World}

theorem WC.mono {c : Code} {q' : Post} (h : WC P n c q ρ w) (h1 : ∀ ρ w,q.norm ρ w → q'.norm ρ w) (h2 : ∀ i ρ w,q.ex i ρ w → q'.ex i ρ w) (h3 : ∀ ρ w,q.ret ρ w → q'.ret ρ w) : WC P n c q' ρ w :=
  wp_mono h fun e a w he=>by
    cases e <;> first
      | exact he
      | (obtain ⟨ρ,ha,hq⟩:=he; first | exact ⟨ρ,ha,h1 _ _ hq⟩ | exact ⟨ρ,ha,h2 _ _ _ hq⟩ | exact ⟨ρ,ha,h3 _ _ hq⟩)

theorem Qz (h : q.norm ρ w) : WC P n .skip q ρ w:=wp_skip ⟨ρ,rfl,h⟩
theorem Qr (h : q.ret ρ w) : WC P n .ret q ρ w:=wp_ret ⟨ρ,rfl,h⟩
theorem Xf {i : Nat} (h : q.ex i ρ w) : WC P n (.exit i) q ρ w:=wp_exit ⟨ρ,rfl,h⟩

theorem Qjr {x y : Code} (h : WC P n x ⟨fun ρ w=>WC P n y q ρ w,q.ex,q.ret⟩ ρ w) : WC P n (.seq x y) q ρ w :=
  wp_seq (wp_mono h fun e a w he=>by
    cases e <;> first
      | exact he
      | (obtain ⟨ρ,ha,hq⟩:=he; subst ha; exact hq))

theorem Qb {x y : Code} (h : ∀ K : Env → World → Prop,(∀ ρ w,WC P n y q ρ w → K ρ w) → WC P n x ⟨K,q.ex,q.ret⟩ ρ w) : WC P n (.seq x y) q ρ w :=
  Qjr (h _ fun _ _ h=>h)

theorem Qjs {x y : Code} (M : Env → World → Prop) (h : WC P n x ⟨M,q.ex,q.ret⟩ ρ w) (h2 : ∀ ρ w,M ρ w → WC P n y q ρ w) : WC P n (.seq x y) q ρ w :=
  Qjr (h.mono h2 (fun _ _ _ h=>h) (fun _ _ h=>h))

theorem Qv {c : Operand} {x y : Code} {b : Bool} (hc : Qo n ρ c = .bool b) (ht : b = true → WC P n x q ρ w) (hf : b = false → WC P n y q ρ w) : WC P n (.cond c x y) q ρ w :=
  wp_cond_split (by rw [Qav]; exact hc) ht hf

theorem QF {i : Nat} {c : Code} (h : WC P n c ⟨q.norm,fun j=>bif Nat.beq j i then q.norm else q.ex j,q.ret⟩ ρ w) : WC P n (.block i c) q ρ w :=
  wp_block (wp_mono h fun e a w he=>by
    cases e with
    | exit j =>
      obtain ⟨ρ,ha,hq⟩:=he
      subst ha
      simp only [Exit.inBlock]
      by_cases hj : j = i
      · subst hj; simp only [Qbx,cond_true] at hq; rw [if_pos rfl]; exact ⟨ρ,rfl,hq⟩
      · rw [if_neg hj]; simp only [ZW hj,cond_false] at hq; exact ⟨ρ,rfl,hq⟩
    | _=>exact he)

def XU {σ β : Type} (step : σ → Option (σ ⊕ β)) : Nat → σ → Option β
  | 0,_=>none
  | k + 1,s=>match step s with
    | none=>none
    | some (.inl s')=>XU step k s'
    | some (.inr o)=>some o

theorem Qjq {c : Code} {σ β : Type} {step : σ → Option (σ ⊕ β)} {k : Nat} {s : σ} {o : β} (I : σ → Env → World → Prop) (h : XU step k s = some o) (h0 : I s ρ w)
    (round : ∀ s ρ w,I s ρ w →
      (∀ s',step s = some (.inl s') → WC P n c ⟨I s',q.ex,q.ret⟩ ρ w) ∧
      (step s = some (.inr o) → WC P n c ⟨fun _ _=>False,q.ex,q.ret⟩ ρ w)) : WC P n (.loop c) q ρ w:=by
  refine wp_loop (fun a w=>∃ k s ρ,a = QT n ρ ∧ XU step k s = some o ∧ I s ρ w)
    (fun a w=>Classical.epsilon fun m=>(∃ s ρ,a = QT n ρ ∧ XU step m s = some o ∧ I s ρ w) ∧ ∀ m',m' < m → ¬ ∃ s ρ,a = QT n ρ ∧ XU step m' s = some o ∧ I s ρ w) ⟨k,s,ρ,rfl,h,h0⟩ ?_
  intro a w hI
  have least : ∀ a w, (∃ m, ∃ s ρ, a = QT n ρ ∧ XU step m s = some o ∧ I s ρ w) →
      ∃ m,(∃ s ρ,a = QT n ρ ∧ XU step m s = some o ∧ I s ρ w) ∧ ∀ m',m' < m → ¬ ∃ s ρ,a = QT n ρ ∧ XU step m' s = some o ∧ I s ρ w:=by
    rintro a w ⟨m,hm⟩
    induction m using Nat.strongRecOn with
    | _ m ih =>
      by_cases hex : ∃ m',m' < m ∧ ∃ s ρ,a = QT n ρ ∧ XU step m' s = some o ∧ I s ρ w
      · obtain ⟨m',hlt,hm'⟩:=hex; exact ih m' hlt hm'
      · exact ⟨m,hm,fun m' hlt hm'=>hex ⟨m',hlt,hm'⟩⟩
  have hl:=Classical.epsilon_spec (least a w hI)
  revert hl
  generalize (Classical.epsilon fun m=>(∃ s ρ,a = QT n ρ ∧ XU step m s = some o ∧ I s ρ w) ∧ ∀ m',m' < m → ¬ ∃ s ρ,a = QT n ρ ∧ XU step m' s = some o ∧ I s ρ w) = m
  rintro ⟨⟨s,ρ,rfl,hs,hI⟩,_⟩
  cases m with
  | zero=>cases hs
  | succ m =>
    have hr:=round s ρ w hI
    simp only [XU] at hs
    split at hs
    · cases hs
    · rename_i s' hst
      refine wp_mono (hr.1 s' hst) fun e a' w' he=>?_
      cases e <;> first
        | exact he
        | skip
      obtain ⟨ρ',rfl,hI'⟩:=he
      have hex : ∃ m,∃ s ρ,QT n ρ' = QT n ρ ∧ XU step m s = some o ∧ I s ρ w':=⟨m,s',ρ',rfl,hs,hI'⟩
      refine ⟨⟨m,s',ρ',rfl,hs,hI'⟩,?_⟩
      have hl':=Classical.epsilon_spec (least (QT n ρ') w' hex)
      revert hl'
      generalize (Classical.epsilon fun m=>(∃ s ρ,QT n ρ' = QT n ρ ∧ XU step m s = some o ∧ I s ρ w') ∧ ∀ m',m' < m → ¬ ∃ s ρ,QT n ρ' = QT n ρ ∧ XU step m' s = some o ∧ I s ρ w') = m2
      rintro ⟨_,hmin⟩
      rcases Nat.lt_or_ge m2 (m + 1) with hlt | hge
      · exact hlt
      · exact absurd ⟨s',ρ',rfl,hs,hI'⟩ (hmin m hge)
    · rename_i o' hst
      cases hs
      exact wp_mono (hr.2 hst) fun e a' w' he=>by
        cases e <;> first
          | exact he
          | (obtain ⟨_,_,hf⟩:=he; exact hf.elim)

/-! ### Operations -/

def Eff (P : Program) (o : Oper) (n : Nat) (ρ : Env) (w : World) (K : Value → World → Prop) : Prop :=
  match (execOp (Qo n ρ) o).run P w with
  | .ok (.value v) w'=>K v w'
  | .ok .skip w'=>K undef w'
  | .ok (.enter f args) w'=>Calls P f args w' (Ret K)
  | _=>False

def Xl (ops : Array Oper) (o : Oper) (n : Nat) (ρ : Env) : Bool:=Region.wanted o (yielded ops (QT n ρ).tmps)

def Stp (P : Program) (n : Nat) (ops : Array Oper) (o : Oper) (ρ : Env) (w : World) (K : Env → World → Prop) : Prop :=
  if Xl ops o n ρ then Eff P o n ρ w (fun v w'=>K (Xa ρ o.dst v) w') else K (Xa ρ o.dst undef) w

def T0 (P : Program) (n : Nat) (ops : Array Oper) (K : Env → World → Prop) : List Oper → Env → World → Prop
  | [],ρ,w=>K ρ w
  | o :: os,ρ,w=>Stp P n ops o ρ w (T0 P n ops K os)

theorem Eff.mono {o : Oper} {K K' : Value → World → Prop} (h : Eff P o n ρ w K) (hm : ∀ v w',K v w' → K' v w') : Eff P o n ρ w K':=by
  unfold Eff at *
  split at h
  · exact hm _ _ h
  · exact hm _ _ h
  · exact Calls.mono h fun e w' he=>by cases e <;> first | exact hm _ _ he | exact he
  · exact h.elim

theorem Stp.toWpOp {ops : Array Oper} {i : Nat} {o : Oper} {K : Env → World → Prop} {K' : Act → World → Prop} {Q : Exit → Act → World → Prop} (hi : ops[i]? = some o) (h : Stp P n ops o ρ w K)
    (hK : ∀ ρ w,K ρ w → K' (QT n ρ) w) : wpOp P ops Q i K' (QT n ρ) w:=by
  unfold Stp at h
  unfold Xl at h
  simp only [wpOp,hi]
  split
  · rename_i hw
    rw [if_pos hw] at h
    left
    unfold Eff at h
    simp only [Oper.wp,Qav]
    split at h
    · rename_i v w' hr; simp only [hr,Oper.upon,Zl]; exact hK _ _ h
    · rename_i w' hr; simp only [hr,Oper.upon,Zl]; exact hK _ _ h
    · rename_i f args w' hr
      simp only [hr,Oper.upon]
      exact Calls.mono h fun e w'' he=>by
        cases e with
        | returned v=>simp only [Zl]; exact hK _ _ he
        | _=>exact he.elim
    · exact h.elim
  · rename_i hw
    rw [if_neg hw] at h
    rw [Zl]
    exact hK _ _ h

theorem Stp.toList {ops : Array Oper} {o : Oper} {K : Env → World → Prop} {K' : Act → World → Prop} {Q : Exit → Act → World → Prop} (h : Stp P n ops o ρ w K)
    (hK : ∀ ρ w,K ρ w → K' (QT n ρ) w) : if Region.wanted o (yielded ops (QT n ρ).tmps) then o.wp P (QT n ρ) w K' Q ∨ (o.asks P (QT n ρ) w ∧ LetsOut Q) else K' ((QT n ρ).put o.dst undef) w:=by
  unfold Stp Xl at h
  split
  · rename_i hw
    rw [if_pos hw] at h
    left
    unfold Eff at h
    simp only [Oper.wp,Qav]
    split at h
    · rename_i v w' hr; simp only [hr,Oper.upon,Zl]; exact hK _ _ h
    · rename_i w' hr; simp only [hr,Oper.upon,Zl]; exact hK _ _ h
    · rename_i f args w' hr
      simp only [hr,Oper.upon]
      exact Calls.mono h fun e w'' he=>by
        cases e with
        | returned v=>simp only [Zl]; exact hK _ _ he
        | _=>exact he.elim
    · exact h.elim
  · rename_i hw
    rw [if_neg hw] at h
    rw [Zl]
    exact hK _ _ h

theorem T0.toWpList {ops : Array Oper} {K : Env → World → Prop} {Q : Exit → Act → World → Prop} (hK : ∀ ρ w, K ρ w → Q .normal (QT n ρ) w) :
    ∀ (l : List Oper) (ρ : Env) (w : World),T0 P n ops K l ρ w → wpList P ops Q l (QT n ρ) w
  | [],ρ,w,h=>hK ρ w h
  | _ :: os,ρ,w,h=>Stp.toList h (fun ρ w h'=>T0.toWpList hK os ρ w h')

theorem Qe {id : Nat} {ops : List Oper} (h : T0 P n ops.toArray q.norm ops ρ w) : WC P n (.region id ops.toArray false) q ρ w :=
  wp_region_lit (T0.toWpList (fun ρ _ h'=>⟨ρ,rfl,h'⟩) ops ρ w h)

/-! ### A region that draws its order -/

def Quiet (P : Program) (n : Nat) (ops : Array Oper) (S : World → Prop) (o : Oper) (ρ : Env) (v : Value) : Prop :=
  (Xl ops o n ρ = true ∧ ∀ w,S w → (execOp (Qo n ρ) o).run P w = .ok (.value v) w) ∨ (Xl ops o n ρ = false ∧ v = undef)

def TS (P : Program) (n : Nat) (ops : List Oper) (S : World → Prop) (Kt : Env → World → Prop) : List (Nat × Bool) → Env → World → Prop
  | [],ρ,w=>Kt ρ w
  | (i,false) :: rest,ρ,w=>∃ o v,ops[i]? = some o ∧ Quiet P n ops.toArray S o ρ v ∧ TS P n ops S Kt rest (Xa ρ o.dst v) w
  | (i,true) :: rest,ρ,w=>∃ o,ops[i]? = some o ∧ Stp P n ops.toArray o ρ w (fun ρ' w'=>S w' ∧ TS P n ops S Kt rest ρ' w')

def TT (P : Program) (n : Nat) (ops : List Oper) (K : Env → World → Prop) : List Nat → Env → World → Prop
  | [],ρ,w=>K ρ w
  | i :: rest,ρ,w=>∃ o,ops[i]? = some o ∧ Stp P n ops.toArray o ρ w (TT P n ops K rest)

def Qci (ops : Array Oper) : List Nat → Array Bool → Bool
  | [],listed=>(Region.ready .any ops listed).isEmpty
  | i :: rest,listed=>Region.ready .any ops listed == [i] && Qci ops rest (listed.setIfInBounds i true)

def Qjz (ops : Array Oper) (m : Nat) (tail : List Nat) : List (Nat × Bool) → Array Bool → Bool
  | [],listed=>Qci ops tail listed
  | (i, e) :: rest, listed => Nat.blt i m && (if e then Region.ready .any ops listed == [i] else Region.free .any ops listed i && (Region.ready .any ops listed).contains i) &&
      Qjz ops m tail rest (listed.setIfInBounds i true)

def JK (ops : Array Oper) : Nat → Nat → Nat → Bool
  | 0,_,_=>false
  | f + 1,j,i=>match ops[j]? with
    | some o=>o.after.any (fun e=>Region.binds .any e && e.on == i) || o.after.any (fun e=>Region.binds .any e && JK ops f e.on i)
    | none=>false

def Qyf (ops : Array Oper) (m : Nat) : Bool :=
  (List.range ops.size).all fun j=>Nat.blt j m || (List.range m).all fun i=>JK ops ops.size j i

def Closed (ops : Array Oper) (listed : Array Bool) : Prop:=∀ j oj,ops[j]? = some oj → listed.getD j false = true → ∀ e ∈ oj.after,Region.binds .any e = true → listed.getD e.on false = true

def Z5 (listed : Array Bool) (m : Nat) : Nat:=((List.range m).filter fun i=>!listed.getD i true).length

def Qzc (ops : Array Oper) (m : Nat) (body : List (Nat × Bool)) (tail : List Nat) : Bool :=
  Region.noSelect ops && Qyf ops m && Nat.ble m ops.size && Nat.beq body.length m && Nat.beq (m + tail.length) ops.size && Qjz ops m tail body (Array.replicate ops.size false)

theorem TT.toAny {ops : List Oper} {K : Env → World → Prop} (hK : ∀ ρ w, K ρ w → q.norm ρ w) : ∀ (tail : List Nat) (listed : Array Bool) (fuel : Nat) (ρ : Env) (w : World), fuel = tail.length → Qci ops.toArray tail listed = true →
    TT P n ops K tail ρ w → wpAny P .any ops.toArray (q.Q n) fuel listed (QT n ρ) w
  | [],listed,fuel,ρ,w,hf,hok,h=>by
    subst hf
    exact ⟨by simpa [Qci] using hok,ρ,rfl,hK ρ w h⟩
  | i :: rest,listed,fuel,ρ,w,hf,hok,h=>by
    subst hf
    simp only [Qci,Bool.and_eq_true,beq_iff_eq] at hok
    obtain ⟨o,hi,hs⟩:=h
    refine wpAny_all hok.1 (by simp) fun j hj=>?_
    have hj : j = i:=by simpa using hj
    subst hj
    exact hs.toWpOp (by simpa using hi) fun ρ w h'=>TT.toAny hK rest _ _ ρ w rfl hok.2 h'

theorem Quiet.yields {ops : Array Oper} {S : World → Prop} {o : Oper} {v : Value} (h : Quiet P n ops S o ρ v) : YieldsIf P ops S o v (QT n ρ):=by
  unfold Quiet Xl at h
  unfold YieldsIf
  rw [Qav]
  exact h

def anyB (P : Program) (ops : Array Oper) (Q : Exit → Act → World → Prop) (S : World → Prop) (Kt : Array Bool → Act → World → Prop) : Nat → Array Bool → Act → World → Prop
  | 0,listed,a,w=>Kt listed a w
  | fuel + 1,listed,a,w=>Region.ready .any ops listed ≠ [] ∧ ∀ i ∈ Region.ready .any ops listed,wpOp P ops Q i (fun a' w'=>S w' ∧ anyB P ops Q S Kt fuel (listed.setIfInBounds i true) a' w') a w

theorem anyB.toAny {ops : Array Oper} {Q : Exit → Act → World → Prop} {S : World → Prop} {Kt : Array Bool → Act → World → Prop} {t : Nat} (ht : ∀ listed a w, Kt listed a w → wpAny P .any ops Q t listed a w) :
    ∀ (fuel : Nat) (listed : Array Bool) (a : Act) (w : World),anyB P ops Q S Kt fuel listed a w → wpAny P .any ops Q (fuel + t) listed a w
  | 0,listed,a,w,h=>by rw [Nat.zero_add]; exact ht _ _ _ h
  | fuel + 1,listed,a,w,h=>by
    have e : fuel + 1 + t = (fuel + t) + 1:=by omega
    rw [e]
    exact ⟨fun h0=>absurd h0 h.1,fun i hi=>wpOp_mono (fun a' w' h'=>anyB.toAny ht fuel _ a' w' h'.2) (h.2 i hi)⟩

theorem Qxu {listed : Array Bool} {m i j : Nat} (hi : i < m) (hj : j < m) (hne : i ≠ j) (h1 : listed.getD i true = false) (h2 : listed.getD j true = false) : 2 ≤ Z5 listed m:=by
  unfold Z5
  have hsub : [i,j].Sublist ((List.range m).filter fun i=>!listed.getD i true) ∨ [j,i].Sublist ((List.range m).filter fun i=>!listed.getD i true):=by
    have hs : ((List.range m).filter fun i=>!listed.getD i true).Pairwise (· < ·):=List.Pairwise.filter _ List.pairwise_lt_range
    have hmi : i ∈ (List.range m).filter fun i=>!listed.getD i true:=by simp only [List.mem_filter,List.mem_range,hi,h1]; simp
    have hmj : j ∈ (List.range m).filter fun i=>!listed.getD i true:=by simp only [List.mem_filter,List.mem_range,hj,h2]; simp
    revert hs hmi hmj
    generalize (List.range m).filter (fun i=>!listed.getD i true) = l
    intro hs hmi hmj
    induction l with
    | nil=>cases hmi
    | cons x xs ih =>
      rcases List.mem_cons.1 hmi with rfl | hmi'
      · rcases List.mem_cons.1 hmj with rfl | hmj'
        · exact absurd rfl hne
        · exact .inl (List.Sublist.cons_cons _ (by simpa using hmj'))
      · rcases List.mem_cons.1 hmj with rfl | hmj'
        · exact .inr (List.Sublist.cons_cons _ (by simpa using hmi'))
        · rcases ih (List.pairwise_cons.1 hs).2 hmi' hmj' with h | h
          · exact .inl (h.cons _)
          · exact .inr (h.cons _)
  rcases hsub with h | h <;> simpa using h.length_le

theorem JQ {listed : Array Bool} {m i : Nat} (hi : i < m) (h1 : listed.getD i true = false) : Z5 listed m = Z5 (listed.setIfInBounds i true) m + 1:=by
  unfold Z5
  have hil : i < listed.size:=by
    rcases Nat.lt_or_ge i listed.size with h | h
    · exact h
    · simp [Array.getD,Nat.not_lt.2 h] at h1
  have key : ∀ l : List Nat,l.Nodup → i ∈ l → (l.filter fun k=>!listed.getD k true).length = (l.filter fun k=>!(listed.setIfInBounds i true).getD k true).length + 1:=by
    intro l
    induction l with
    | nil=>intro _ h; cases h
    | cons x xs ih =>
      intro hnd hmem
      have hnd':=List.nodup_cons.1 hnd
      by_cases hx : x = i
      · subst hx
        have e1 : (listed.setIfInBounds x true).getD x true = true:=by simp [Array.getD,hil]
        have e2 : xs.filter (fun k=>!listed.getD k true) = xs.filter (fun k=>!(listed.setIfInBounds x true).getD k true):=by
          apply List.filter_congr
          intro k hk
          have : x ≠ k:=fun e=>hnd'.1 (e ▸ hk)
          rw [getD_set_ne true this]
        rw [List.filter_cons_of_pos (by simp [h1]),List.filter_cons_of_neg (by simp [e1]),e2]; rfl
      · have hm : i ∈ xs:=by rcases List.mem_cons.1 hmem with h | h; exact absurd h.symm hx; exact h
        have:=ih hnd'.2 hm
        have e : (listed.setIfInBounds i true).getD x true = listed.getD x true:=getD_set_ne true (Ne.symm hx)
        by_cases hb : listed.getD x true = false
        · rw [List.filter_cons_of_pos (by simp [hb]),List.filter_cons_of_pos (by rw [e]; simp [hb])]; simp only [List.length_cons,this]
        · rw [List.filter_cons_of_neg (by simp [hb]),List.filter_cons_of_neg (by rw [e]; simp [hb])]; exact this
  exact key _ List.nodup_range (by simpa using hi)

theorem Qmb {ops : Array Oper} {listed : Array Bool} (hc : Closed ops listed) : ∀ (f j i : Nat) (oj : Oper),ops[j]? = some oj → (∀ e ∈ oj.after,Region.binds .any e = true → listed.getD e.on false = true) → JK ops f j i = true → listed.getD i false = true
  | 0,_,_,_,_,_,h=>by cases h
  | f + 1,j,i,oj,hj,hall,h=>by
    simp only [JK,hj,Bool.or_eq_true] at h
    rcases h with h | h
    · obtain ⟨e,he,hb⟩:=Array.any_eq_true'.1 h
      simp only [Bool.and_eq_true,beq_iff_eq] at hb
      rw [← hb.2]; exact hall e he hb.1
    · obtain ⟨e,he,hb⟩:=Array.any_eq_true'.1 h
      simp only [Bool.and_eq_true] at hb
      have hl:=hall e he hb.1
      cases ho : ops[e.on]? with
      | none =>
        have h2:=hb.2
        cases f with
        | zero=>cases h2
        | succ f=>simp [JK,ho] at h2
      | some o'=>exact Qmb hc f e.on i o' ho (hc _ _ ho hl) hb.2

theorem Closed.none (ops : Array Oper) (k : Nat) : Closed ops (Array.replicate k false):=fun j oj _ h=>by
  by_cases hj : j < k <;> simp [Array.getD,hj] at h

theorem Closed.set {ops : Array Oper} {listed : Array Bool} {j : Nat} (hc : Closed ops listed) (hj : j ∈ Region.ready .any ops listed) : Closed ops (listed.setIfInBounds j true):=fun k ok hk hl e he hb=>by
  obtain ⟨_,oj,hoj,hall⟩:=mem_ready.1 hj
  by_cases hjk : j = k
  · subst hjk
    rw [hoj] at hk; cases hk
    exact getD_set_true (hall e he hb)
  · rw [getD_set_ne false hjk] at hl
    exact getD_set_true (hc k ok hk hl e he hb)

theorem Qxt (k m : Nat) (h : m ≤ k) : Z5 (Array.replicate k false) m = m:=by
  unfold Z5
  rw [List.filter_eq_self.2]
  · simp
  · intro a ha
    have : a < k:=Nat.lt_of_lt_of_le (by simpa using ha) h
    simp [Array.getD,this]

/-! ### Functions -/

def Qjj (P : Program) (ρ : Env) (w : World) (r : ResultVar) (v : Value) : Prop :=
  match r with
  | .tmp t=>ρ t = v
  | .cell a t=>∃ ad,ρ a = .pointer (some ad) ∧ (loadVar t ad).run P w = .ok v w

def JW (P : Program) (ρ : Env) (w : World) : List ResultVar → List Value → Prop
  | [],[]=>True
  | r :: rs,v :: vs=>Qjj P ρ w r v ∧ JW P ρ w rs vs
  | _,_=>False

def YZ : List ResultVar → Nat → Bool
  | [],_=>true
  | .tmp t :: rs,n=>Nat.blt t n && YZ rs n
  | .cell a _ :: rs,n=>Nat.blt a n && YZ rs n

theorem Qkw {t : Nat} (h : Nat.blt t n = true) : (QT n ρ).tmps.getD t undef = ρ t:=by
  have : t < n:=by simpa [Nat.blt_eq] using h
  simp [QT,Array.getD,this]

def tup (vs : List Value) : Value:=match vs with | [v]=>v | vs=>.tuple vs.toArray

def Qbg (tmps : Array Value) : ResultVar → Sem Value
  | .tmp t=>pure (tmps.getD t undef)
  | .cell a t=>do loadVar t (← asAddr (tmps.getD a undef))

theorem Qwa (fn : Func) (tmps : Array Value) : results fn tmps = (do let vs ← fn.results.mapM (Qbg tmps); pure (if h : vs.size = 1 then vs[0] else .tuple vs)):=by
  unfold results
  congr 1

theorem Qwe {r : ResultVar} {v : Value} (hm : YZ [r] n = true) (h : Qjj P ρ w r v) : (Qbg (QT n ρ).tmps r).run P w = .ok v w:=by
  cases r with
  | tmp t =>
    simp only [YZ,Bool.and_true] at hm
    have h : ρ t = v:=h
    simp only [Qbg,Qkw hm,h,Sem.run_pure]
  | cell a t =>
    simp only [YZ,Bool.and_true] at hm
    obtain ⟨ad,h1,h3⟩:=h
    simp only [Qbg,Qkw hm,h1,asAddr,pure_bind,h3]

theorem Qii {fn : Func} {rs : List ResultVar} {vs : List Value} (hr : fn.results = rs.toArray) (hm : YZ rs n = true) (h : JW P ρ w rs vs) : (results fn (QT n ρ).tmps).run P w = .ok (tup vs) w:=by
  have key : ∀ (rs : List ResultVar) (vs : List Value),YZ rs n = true → JW P ρ w rs vs → (rs.mapM (Qbg (QT n ρ).tmps)).run P w = .ok vs w:=by
    intro rs
    induction rs with
    | nil=>intro vs _ h; cases vs with | nil=>rfl | cons v vs=>exact h.elim
    | cons r rs ih =>
      intro vs hm h
      cases vs with
      | nil=>exact h.elim
      | cons v vs =>
        obtain ⟨h1,h2⟩:=h
        have hm1 : YZ [r] n = true ∧ YZ rs n = true:=by
          cases r <;> simpa only [YZ,Bool.and_eq_true,Bool.and_true] using hm
        simp only [List.mapM_cons,Sem.run_bind,Qwe hm1.1 h1,ih vs hm1.2 h2,Result.andThen,Sem.run_pure]
  have k:=key rs vs hm h
  rw [Qwa,hr,List.mapM_toArray]
  simp only [map_eq_pure_bind,Sem.run_bind,k,Result.andThen,Sem.run_pure]
  cases vs with
  | nil=>simp [tup]
  | cons v vs=>cases vs <;> simp [tup]

theorem QP {f : FuncId} {fn : Func} {c : Code} {args : List Value} {rs : List ResultVar} {Φ : Value → World → Prop} (hf : P.funcs[f]? = some fn) (hb : fn.body = some c) (hn : fn.ntmps = n) (hl : Nat.ble args.length n = true)
    (hr : fn.results = rs.toArray) (hm : YZ rs n = true)
    (h : WC P n c ⟨fun _ _=>False,fun _ _ _=>False,fun ρ w=>∃ vs,JW P ρ w rs vs ∧ Φ (tup vs) w⟩ (fun i=>args.getD i undef) w) : CallsTo P f args w Φ:=by
  refine calls_of_wp hf hb ?_
  have hl : args.length ≤ n:=by simpa using hl
  rw [hn]
  have:=Qfx args n hl
  rw [this]
  refine wp_mono h fun e a w he=>?_
  cases e <;> first
    | exact he.elim
    | (obtain ⟨_,_,hf⟩:=he; exact hf.elim)
    | (obtain ⟨ρ, rfl, vs, hv, hΦ⟩ := he
       exact ⟨rfl,_,Qii hr hm hv,hΦ⟩)

end
end Go.Gw
