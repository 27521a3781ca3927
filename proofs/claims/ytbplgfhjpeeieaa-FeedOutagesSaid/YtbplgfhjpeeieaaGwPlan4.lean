/- A region that draws its order, by a plan that branches; what is written meanwhile is new. No condition. -/
import Derived.Test.YtbplgfhjpeeieaaGwPlan2
set_option linter.unusedVariables false
set_option linter.unusedSimpArgs false
set_option linter.unusedSectionVars false
set_option linter.unusedSectionVars false
namespace Go.Gw
open Go
structure ExB (B : Nat) (w w' : World) : Prop where
  os : w'.os = w.os
  tape : w'.tape = w.tape
  output : w'.output = w.output
  size : w.heap.size ≤ w'.heap.size
  block : ∀ b,b < B → w'.heap[b]? = w.heap[b]?
theorem ExB.refl {B : Nat} {w : World} : ExB B w w:=⟨rfl,rfl,rfl,Nat.le_refl _,fun _ _=>rfl⟩
theorem ExB.trans {B : Nat} {a b c : World} (h : ExB B a b) (k : ExB B b c) : ExB B a c :=
  ⟨k.os.trans h.os,k.tape.trans h.tape,k.output.trans h.output,Nat.le_trans h.size k.size,fun i hi=>(k.block i hi).trans (h.block i hi)⟩
theorem ExB.to {w1 w : World} (h : ExB w1.heap.size w1 w) : Ext w1 w:=⟨h.os,h.tape,h.output,h.size,fun b hb _=>h.block b hb⟩
theorem ExB.of {w1 a b : World} (x : ExB w1.heap.size w1 a) (h : Ext a b) : ExB w1.heap.size a b:=⟨h.os,h.tape,h.output,h.size,fun i hi=>h.block i (Nat.lt_of_lt_of_le hi x.size) (Avoids.nil _)⟩
theorem ExB.chg {w1 a b : World} {n : Nat} (x : ExB w1.heap.size w1 a) (h : Chg [.pointer (some ⟨n,0,none⟩)] a b) (hn : w1.heap.size ≤ n) : ExB w1.heap.size a b :=
  ⟨h.os,h.tape,h.output,h.size,fun i hi=>h.block i (Nat.lt_of_lt_of_le hi x.size) (fun y hy e=>by
    rcases List.mem_singleton.1 hy with rfl
    simp [Qh] at e; omega)⟩
section
variable {P : Program} [JD P] {n : Nat} {q : Post} {ρ : Env} {w : World}
def TY (B : Nat) (P : Program) [JD P] (n : Nat) (ops : List Oper) (K : Env → World → Prop) : Px → Env → World → Prop
  | .done,ρ,w=>K ρ w
  | .p i r,ρ,w=>∃ o v,ops[i]? = some o ∧ Quiet P n ops.toArray (fun _=>True) o ρ v ∧ TY B P n ops K r (XG ρ o.dst v) w
  | .q i r,ρ,w=>∃ o v,ops[i]? = some o ∧ Quiet P n ops.toArray (ExB B w) o ρ v ∧ TY B P n ops K r (XG ρ o.dst v) w
  | .m s,ρ,w=>TY B P n ops K s ρ w
  | .a i r s,ρ,w=>(∃ o,ops[i]? = some o ∧ Stp P n ops.toArray o ρ w (fun ρ' w'=>ExB B w w' ∧ TY B P n ops K r ρ' w')) ∧ TY B P n ops K s ρ w
  | .c i r s,ρ,w=>(∃ o,ops[i]? = some o ∧ Stp P n ops.toArray o ρ w (fun ρ' w'=>TY B P n ops K r ρ' w')) ∧ TY B P n ops K s ρ w
  | .z,_,_=>True
def BrY (B : Nat) (P : Program) [JD P] (n : Nat) (q : Post) (ops : List Oper) (bs : List Nat) (k : Nat) (listed : Array Bool) (ρ : Env) (w : World) (i : Nat) : Prop :=
  Zo (JD.j (P:=P)) ops.toArray i (fun a' w'=>∃ S' : World → Prop,(bs.contains i = false → ExB B w w → S' w' ∧ ∀ x,S' x → ExB B w x) ∧ anyX P ops.toArray (q.Q n) bs (fun listed a w=>ZL (JD.j (P:=P)) ops.toArray (q.Q n) 0 listed a w) k S' (listed.setIfInBounds i true) a' w') (act n ρ) w
theorem TY.toX {B : Nat} {ops : List Oper} {bs : List Nat} {K : Env → World → Prop} (hsel : Region.noSelect ops.toArray = true) (hK : ∀ ρ w, K ρ w → q.norm ρ w) :
    ∀ (p : Px) (listed : Array Bool) (ρ : Env) (w : World),listed.size = ops.toArray.size → Closed ops.toArray listed → Y4 ops.toArray bs p listed = true → TY B P n ops K p ρ w →
      (p.inChain = false → ZW listed ops.toArray.size = p.len → anyX P ops.toArray (q.Q n) bs (fun listed a w=>ZL (JD.j (P:=P)) ops.toArray (q.Q n) 0 listed a w) p.len (ExB B w) listed (act n ρ) w) ∧
      (∀ k,p.chain (k + 1) = true → ZW listed ops.toArray.size = k + 1 → (∀ i ∈ p.heads,i ∈ Region.ready .any ops.toArray listed) → ∀ i ∈ p.heads,BrY B P n q ops bs k listed ρ w i)
  | .done,listed,ρ,w,_,_,hok,h=>⟨fun _ _=>⟨by simpa [Y4] using hok,ρ,rfl,hK _ _ h⟩,fun k hc=>by cases hc⟩
  | .p i r,listed,ρ,w,hls,hcl,hok,h=>⟨fun _ hc=>by
    simp only [Y4,Bool.and_eq_true,Bool.not_eq_true'] at hok
    obtain ⟨⟨⟨hnc,hf⟩,hr⟩,hrest⟩:=hok
    obtain ⟨o,v,hi',hq,ht⟩:=h
    have hi : ops.toArray[i]? = some o:=by simpa using hi'
    have him:=(Array.getElem?_eq_some_iff.1 hi).1
    have hr : i ∈ Region.ready .any ops.toArray listed:=by simpa using hr
    have hc':=Zv (listed:=listed) him (by simpa using (mem_ready.1 hr).1)
    simp only [Px.len] at hc
    refine Qcx (Si:=fun _=>True) hi (.inr fun _=>trivial) (Region.noSelect_spec hsel) r.len _ listed _ w hls hcl hc.symm (Region.free_spec hi hf) hr hq.yields trivial (.inr fun _=>trivial) ?_
    rw [ZY]
    exact (TY.toX hsel hK r _ _ w (by simpa using hls) (hcl.set hr) hrest ht).1 hnc (by omega),fun k hc=>by cases hc⟩
  | .q i r,listed,ρ,w,hls,hcl,hok,h=>⟨fun _ hc=>by
    simp only [Y4,Bool.and_eq_true,List.all_eq_true,Bool.not_eq_true'] at hok
    obtain ⟨⟨⟨⟨hnc,hm⟩,hf⟩,hr⟩,hrest⟩:=hok
    obtain ⟨o,v,hi',hq,ht⟩:=h
    have hi : ops.toArray[i]? = some o:=by simpa using hi'
    have him:=(Array.getElem?_eq_some_iff.1 hi).1
    have hr : i ∈ Region.ready .any ops.toArray listed:=by simpa using hr
    have hc':=Zv (listed:=listed) him (by simpa using (mem_ready.1 hr).1)
    simp only [Px.len] at hc
    refine Qcx (Si:=ExB B w) hi (.inl hm) (Region.noSelect_spec hsel) r.len (ExB B w) listed _ w hls hcl hc.symm (Region.free_spec hi hf) hr hq.yields (ExB.refl) (.inl ⟨ExB.refl,fun _ h=>h⟩) ?_
    rw [ZY]
    exact (TY.toX hsel hK r _ _ w (by simpa using hls) (hcl.set hr) hrest ht).1 hnc (by omega),fun k hc=>by cases hc⟩
  | .m s,listed,ρ,w,hls,hcl,hok,h=>⟨fun _ hc=>by
    simp only [Y4,Bool.and_eq_true,beq_iff_eq,Bool.not_eq_true'] at hok
    obtain ⟨hr,hne,hch,hok⟩:=hok
    have hh:=(TY.toX hsel hK s listed ρ w hls hcl hok h).2
    simp only [Px.len] at hc ⊢
    cases hl : s.len with
    | zero =>
      exfalso
      cases s with
      | a i r s=>simp [Px.len] at hl
      | c i r s=>simp [Px.len] at hl
      | _=>simp [Px.heads] at hne
    | succ k =>
      rw [hl] at hch hc
      refine ⟨fun e=>by rw [hr] at e; rw [e] at hne; simp at hne,fun i hi=>?_⟩
      exact hh k hch hc (fun i hi=>by rw [hr]; exact hi) i (by rw [← hr]; exact hi),fun k hc=>by cases hc⟩
  | .a i r s,listed,ρ,w,hls,hcl,hok,h=>⟨fun hc=>(by cases hc),fun k hc hu hrd j hj=>by
    simp only [Y4,Bool.and_eq_true,Bool.not_eq_true'] at hok
    obtain ⟨hnb,hokr,hoks⟩:=hok
    simp only [Px.chain,Bool.and_eq_true,Bool.not_eq_true',Nat.beq_eq] at hc
    obtain ⟨hl,hnc,hcs⟩:=hc
    obtain ⟨⟨o,hi',hs⟩,h2⟩:=h
    rcases List.mem_cons.1 hj with rfl | hj
    · have hi : ops.toArray[j]? = some o:=by simpa using hi'
      have hr':=hrd j (List.mem_cons_self ..)
      have hc':=Zv (listed:=listed) (Array.getElem?_eq_some_iff.1 hi).1 (by simpa using (mem_ready.1 hr').1)
      refine hs.toOp hi fun ρ w' h'=>⟨ExB B w',fun _ _=>⟨ExB.refl,fun _ hx=>ExB.trans h'.1 hx⟩,?_⟩
      have:=(TY.toX hsel hK r _ ρ w' (by simpa using hls) (hcl.set hr') hokr h'.2).1 hnc (by omega)
      rwa [show r.len = k by omega] at this
    · exact (TY.toX hsel hK s listed ρ w hls hcl hoks h2).2 k hcs hu (fun i hi=>hrd i (List.mem_cons_of_mem _ hi)) j hj⟩
  | .c i r s,listed,ρ,w,hls,hcl,hok,h=>⟨fun hc=>(by cases hc),fun k hc hu hrd j hj=>by
    simp only [Y4,Bool.and_eq_true,Bool.not_eq_true'] at hok
    obtain ⟨hib,hnq,hokr,hoks⟩:=hok
    simp only [Px.chain,Bool.and_eq_true,Bool.not_eq_true',Nat.beq_eq] at hc
    obtain ⟨hl,hnc,hcs⟩:=hc
    obtain ⟨⟨o,hi',hs⟩,h2⟩:=h
    rcases List.mem_cons.1 hj with rfl | hj
    · have hi : ops.toArray[j]? = some o:=by simpa using hi'
      have hr':=hrd j (List.mem_cons_self ..)
      have hc':=Zv (listed:=listed) (Array.getElem?_eq_some_iff.1 hi).1 (by simpa using (mem_ready.1 hr').1)
      refine hs.toOp hi fun ρ w' h'=>⟨ExB B w',fun hb=>(by rw [hib] at hb; cases hb),?_⟩
      have:=(TY.toX hsel hK r _ ρ w' (by simpa using hls) (hcl.set hr') hokr h').1 hnc (by omega)
      rwa [show r.len = k by omega] at this
    · exact (TY.toX hsel hK s listed ρ w hls hcl hoks h2).2 k hcs hu (fun i hi=>hrd i (List.mem_cons_of_mem _ hi)) j hj⟩
  | .z,listed,ρ,w,_,_,_,_=>⟨fun hc=>(by cases hc),fun _ _ _ _ i hi=>(by cases hi)⟩

theorem Qhv {id : Nat} {ops : List Oper} (hm : P.follows .mixedOrders = true) (p : Px) (hok : Qka ops.toArray p = true) (hnc : p.inChain = false) (h : ∀ w1,Ext w w1 → TY w1.heap.size P n ops q.norm p ρ w1) : WC P n (.region id ops.toArray true) q ρ w:=by
  simp only [Qka,Bool.and_eq_true] at hok
  obtain ⟨hsel,hl,hp⟩:=hok
  have hl : p.len = ops.toArray.size:=by simpa [Nat.beq_eq] using hl
  refine QCd hm ?_
  have h1:=(TY.toX (q:=q) hsel (fun _ _ h=>h) p (Array.replicate ops.toArray.size false) ρ { w with drawn:=w.drawn + 1 } (by simp) (Closed.none _ _) hp (h _ (Ext.drew w))).1 hnc (by rw [Qrk _ _ (Nat.le_refl _),hl])
  have h2:=anyX.toAny (fun _ _ _ h=>h) p.len _ _ _ _ h1
  rw [hl] at h2
  exact h2

section
variable {B : Nat} {K : Env → World → Prop} {ops : List Oper} {o : Oper} {i : Nat} {r s : Px} {v : Value}
theorem Qer (h : K ρ w) : TY B P n ops K .done ρ w:=h
theorem YA (hi : ops[i]? = some o) (hw : Yf ops.toArray o n ρ = true) (hy : ∀ w',Yl P n ρ o w' v) (h : TY B P n ops K r (XG ρ o.dst v) w) : TY B P n ops K (.p i r) ρ w :=
  ⟨o,v,hi,.inl ⟨hw,fun w' _=>hy w'⟩,h⟩
theorem ZA (hi : ops[i]? = some o) (hw : Yf ops.toArray o n ρ = true) (hy : ∀ w',ExB B w w' → Yl P n ρ o w' v) (h : TY B P n ops K r (XG ρ o.dst v) w) : TY B P n ops K (.q i r) ρ w :=
  ⟨o,v,hi,.inl ⟨hw,hy⟩,h⟩
theorem QCo (h : TY B P n ops K s ρ w) : TY B P n ops K (.m s) ρ w:=h
theorem QCm (h : ∃ o,ops[i]? = some o ∧ Stp P n ops.toArray o ρ w (fun ρ' w'=>ExB B w w' ∧ TY B P n ops K r ρ' w')) (h2 : TY B P n ops K s ρ w) : TY B P n ops K (.a i r s) ρ w:=⟨h,h2⟩
theorem QCn (h : ∃ o,ops[i]? = some o ∧ Stp P n ops.toArray o ρ w (fun ρ' w'=>ExB B w w' ∧ TY B P n ops K r ρ' w')) : TY B P n ops K (.a i r .z) ρ w:=⟨h,trivial⟩
theorem Qcu (h : ∃ o,ops[i]? = some o ∧ Stp P n ops.toArray o ρ w (fun ρ' w'=>ExB B w w' ∧ TY B P n ops K r ρ' w')) : TY B P n ops K (.m (.a i r .z)) ρ w:=⟨h,trivial⟩
theorem Qaz (hi : ops[i]? = some o) (hw : Yf ops.toArray o n ρ = true) (h : Eff P o n ρ w (fun v w'=>ExB B w w' ∧ TY B P n ops K r (XG ρ o.dst v) w')) : ∃ o,ops[i]? = some o ∧ Stp P n ops.toArray o ρ w (fun ρ' w'=>ExB B w w' ∧ TY B P n ops K r ρ' w') :=
  ⟨o,hi,by unfold Stp; rw [if_pos hw]; exact h⟩
end
end
end Go.Gw
