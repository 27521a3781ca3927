/- Goroutines: what runs well in a goroutine's view of the world runs alike in the world itself. A view: blocks that the goroutine does not see are empty rows, blocks that it shares are frozen. No condition. -/
import Derived.Conc.Own5
import Derived.Conc.Listed
set_option linter.unusedVariables false
set_option linter.unusedSimpArgs false
set_option linter.unusedSectionVars false
set_option linter.unusedVariables false
namespace Go.Gw
open Go

def XJ:Obj:=.coro none
structure Agr (F Z:Nat→Prop) (w W:World):Prop where
  tape:W.tape=w.tape
  drawn:W.drawn=w.drawn
  os:W.os=w.os
  output:W.output=w.output
  size:W.heap.size=w.heap.size
  own:∀ b,F b→¬ Z b→W.heap[b]?=w.heap[b]?
  shr:∀ b,F b→Z b→∃ cs e fz,w.heap[b]?=some (.cells cs e (0,cs.size))∧W.heap[b]?=some (.cells cs e fz)
  hid:∀ b,¬ F b→b < w.heap.size→w.heap[b]?=some XJ
  zf:∀ b,Z b→F b
inductive AtL:Loc→Addr→Prop
  | cell (a:Addr):AtL (.cell a) a
  | obj (r:Nat):AtL (.obj r) ⟨r,0,none⟩
theorem AtL.inj {l:Loc} {a b:Addr} (h:AtL l a) (k:AtL l b):a=b:=by
  cases h<;>cases k<;>rfl
theorem AtL.mem {l:Loc} {a:Addr} (h:AtL l a):l.isMemory=true:=by
  cases h<;>rfl
def EvOk (F Z:Nat→Prop) (e:Event):Prop:=(∃ a,AtL e.loc a∧e.sync=false∧F a.block∧(e.write=true→¬ Z a.block))∨e.loc=.mark .noRoom∨∃ f,e.loc=.mark (.extern f)
structure AgrTo (F Z:Nat→Prop) (W:World) (F':Nat→Prop) (w' W':World):Prop where
  agr:Agr F' Z w' W'
  more:∀ b,F b→F' b
  new:∀ b,F' b→F b∨W.heap.size≤b∧b < W'.heap.size
  size:W.heap.size≤W'.heap.size
  keep:∀ b,b < W.heap.size→¬ F b∨Z b→W'.heap[b]?=W.heap[b]?
  same:W'.tape=W.tape∧W'.os=W.os∧W'.output=W.output
def Obj.still:Obj→Bool
  | .view .. | .chan ..=>false
  | _=>true
inductive Tame (P:Program) {α:Type}:Sem α→Prop
  | pure (a:α):Tame P (.pure a)
  | load (a:Addr) (k:Value→Sem α):(∀ v,Tame P (k v))→Tame P (.load .plain a k)
  | store (a:Addr) (v:Value) (k:Sem α):Tame P k→Tame P (.store .plain a v k)
  | new (o:Obj) (k:Nat→Sem α):Obj.still o=true→(∀ n,Tame P (k n))→Tame P (.new o k)
  | choose (q:Question) (k:Nat→Sem α):(∀ n,Tame P (k n))→Tame P (.choose q k)
  | program (k:Program→Sem α):Tame P (k P)→Tame P (.program k)
  | room (k:Sem α):Tame P k→Tame P (.mark .noRoom k)
  | ext (f:FuncId) (k:Sem α):Tame P k→Tame P (.mark (.extern f) k)
  | doom (m:Sem α):(∀ w es r w',(m.runT P w es).1≠.ok r w')→Tame P m
  | same (m m':Sem α):(∀ w es,m.runT P w es=m'.runT P w es)→Tame P m'→Tame P m
  | halt (h:Halt):Tame P (.halt h)
theorem Tame.bind {P:Program} {α β:Type} {m:Sem α} {f:α→Sem β} (h:Tame P m) (hf:∀ a,Tame P (f a)):Tame P (m.bind f):=by
  induction h with
  | room k _ ih=>exact .room _ ih
  | ext f k _ ih=>exact .ext f _ ih
  | same m m' hm _ ih=>exact .same _ _ (fun w es=>by rw [Go.Sem.runT_bind',Go.Sem.runT_bind',hm]) ih
  | doom m hm =>
    refine .doom _ fun w es r w'=>?_
    rw [Go.Sem.runT_bind']
    have:=hm w es
    generalize hx:m.runT P w es=x at this ⊢
    obtain ⟨x1,x2⟩:=x
    cases x1 with
    | ok a w1=>exact absurd rfl (this a w1)
    | halt h w1=>simp
  | pure a=>exact hf a
  | load a k _ ih=>exact .load a _ fun v=>ih v
  | store a v k _ ih=>exact .store a v _ ih
  | new o k ho _ ih=>exact .new o _ ho fun n=>ih n
  | choose q k _ ih=>exact .choose q _ fun n=>ih n
  | program k _ ih=>exact .program _ ih
  | halt h=>exact .halt h
def NoView (w:World):Prop:=∀ (b:Nat) (a:Addr) (u:TypeId),w.heap[b]?≠some (Obj.view a u)

theorem Qhu {F Z:Nat→Prop} {w W:World} (h:Agr F Z w W) {a:Addr} {v:Value} (hc:w.cell? a=some v):F a.block∧W.cell? a=some v:=by
  have hF:F a.block:=by
    refine Classical.byContradiction fun hn=>?_
    unfold World.cell? at hc
    rcases Nat.lt_or_ge a.block w.heap.size with hlt | hge
    · rw [h.hid _ hn hlt] at hc
      simp [XJ] at hc
    · rw [Array.getElem?_eq_none hge] at hc;cases hc
  refine ⟨hF,?_⟩
  unfold World.cell? at hc ⊢
  rcases Classical.em (Z a.block) with hz | hz
  · obtain ⟨cs,e,fz,h1,h2⟩:=h.shr _ hF hz
    rw [h1] at hc;rw [h2];exact hc
  · rw [h.own _ hF hz];exact hc
theorem Qup {F Z:Nat→Prop} {w W:World} (h:Agr F Z w W) {a:Addr} {v:Value} (hc:w.cell? a=some v) (hf:w.frozen? a=false):¬ Z a.block∧W.frozen? a=false:=by
  have hF:=(Qhu h hc).1
  have hz:¬ Z a.block:=fun hz=>by
    obtain ⟨cs,e,fz,h1,h2⟩:=h.shr _ hF hz
    unfold World.frozen? at hf
    unfold World.cell? at hc
    rw [h1] at hf hc
    simp only at hf hc
    split at hc
    · cases hc
    · have:=(Array.getElem?_eq_some_iff.1 hc).1
      simp at hf
      omega
  refine ⟨hz,?_⟩
  unfold World.frozen? at hf ⊢
  rw [h.own _ hF hz];exact hf
theorem Jc {w:World} {a:Addr} {v:Value} {b:Nat}:(w.setCell a v).heap[b]?=if b=a.block then (w.heap[b]?).map (fun o=>match o with | .cells c elem frozen=>.cells (if a.spot.isSome then c else c.setIfInBounds a.off v) elem frozen | o=>o) else w.heap[b]?:=by
  unfold World.setCell
  simp only [Array.getElem?_modify]
  by_cases hb:b=a.block
  · subst hb
    simp only [if_true]
    cases w.heap[a.block]? with
    | none=>rfl
    | some o=>cases o<;>rfl
  · rw [if_neg hb,if_neg (fun e=>hb e.symm)]
theorem Zj {w:World} {a:Addr} {v:Value}:(w.setCell a v).heap.size=w.heap.size:=by simp [World.setCell]
theorem Qlx {F Z:Nat→Prop} {w W:World} (h:Agr F Z w W) {a:Addr} (v:Value) (hF:F a.block) (hz:¬ Z a.block):Agr F Z (w.setCell a v) (W.setCell a v) where
  tape:=h.tape
  drawn:=h.drawn
  os:=h.os
  output:=h.output
  size:=by rw [Zj,Zj,h.size]
  own:=fun b hb hzb=>by rw [Jc,Jc,h.own b hb hzb]
  shr:=fun b hb hzb=>by
    have hne:b≠a.block:=fun e=>hz (e▸hzb)
    rw [Jc,Jc,if_neg hne,if_neg hne];exact h.shr b hb hzb
  hid:=fun b hb hlt=>by
    have hne:b≠a.block:=fun e=>hb (e▸hF)
    rw [Jc,if_neg hne];exact h.hid b hb (by rw [Zj] at hlt;exact hlt)
  zf:=h.zf
theorem QEw {w:World} {a:Addr} {v:Value} (h:NoView w):NoView (w.setCell a v):=fun b x u e=>by
  rw [Jc] at e
  split at e
  · cases hb:w.heap[b]? with
    | none=>rw [hb] at e;cases e
    | some o =>
      rw [hb] at e
      cases o<;>simp at e
      rename_i x' u'
      exact h b x' u' hb
  · exact h b x u e
theorem AgrTo.trans {F Z F1 F2:Nat→Prop} {W W1 W2 w1 w2:World} (h:AgrTo F Z W F1 w1 W1) (k:AgrTo F1 Z W1 F2 w2 W2):AgrTo F Z W F2 w2 W2 where
  agr:=k.agr
  more:=fun b hb=>k.more b (h.more b hb)
  new:=fun b hb=>by
    rcases k.new b hb with h1 | h1
    · rcases h.new b h1 with h2 | h2
      · exact .inl h2
      · exact .inr ⟨h2.1,Nat.lt_of_lt_of_le h2.2 k.size⟩
    · exact .inr ⟨Nat.le_trans h.size h1.1,h1.2⟩
  size:=Nat.le_trans h.size k.size
  same:=⟨k.same.1.trans h.same.1,k.same.2.1.trans h.same.2.1,k.same.2.2.trans h.same.2.2⟩
  keep:=fun b hlt hb=>by
    have h1:=h.keep b hlt hb
    rw [← h1]
    refine k.keep b (Nat.lt_of_lt_of_le hlt h.size) ?_
    rcases hb with hb | hb
    · left
      intro hF1
      rcases h.new b hF1 with h2 | h2
      · exact hb h2
      · omega
    · exact .inr hb
theorem Qyi {p:Program} {w:World} {a:Addr} {at_:Bool} (hv:NoView w):∃ e,w.farLoad p a at_=.error e:=by
  unfold World.farLoad
  split
  · rename_i x u hb;exact absurd hb (hv _ _ _)
  · exact ⟨_,rfl⟩
theorem Qyj {p:Program} {w:World} {a:Addr} {v:Value} {at_:Bool} (hv:NoView w):∃ e,w.farStore p a v at_=.error e:=by
  unfold World.farStore
  split
  · rename_i x u hb;exact absurd hb (hv _ _ _)
  · exact ⟨_,rfl⟩
theorem frame {α : Type} {P : Program} {m : Sem α} (hm : Tame P m) : ∀ {F Z : Nat → Prop} {w W : World} {es es' : Array Event} {r : α} {w' : World}, Agr F Z w W → NoView w → m.runT P w es = (.ok r w', es') →
    ∃ F' W' us,m.runT P W es=(.ok r W',es')∧AgrTo F Z W F' w' W'∧NoView w'∧es'=es++us∧∀ e∈us,EvOk F' Z e:=by
  induction hm with
  | pure a =>
    intro F Z w W es es' r w' h hv hr
    simp only [Sem.runT] at hr
    cases hr
    exact ⟨F,W,#[],rfl,⟨h,fun _ x=>x,fun _ x=>.inl x,Nat.le_refl _,fun _ _ _=>rfl,rfl,rfl,rfl⟩,hv,by simp,by simp⟩
  | load a k _ ih =>
    intro F Z w W es es' r w' h hv hr
    simp only [Sem.runT] at hr ⊢
    cases hc:w.cell? a with
    | some v =>
      rw [hc] at hr
      obtain ⟨hF,hC⟩:=Qhu h hc
      rw [hC]
      obtain ⟨F',W',us,h1,h2,h3,h4,h5⟩:=ih v h hv hr
      refine ⟨F',W',#[⟨.cell a,false,false⟩]++us,h1,h2,h3,by rw [h4];apply Array.toList_inj.1;simp,fun e he=>?_⟩
      rcases Array.mem_append.1 he with he | he
      · simp at he;subst he
        exact .inl ⟨a,.cell a,rfl,h2.more _ hF,fun h=>by cases h⟩
      · exact h5 e he
    | none =>
      rw [hc] at hr
      obtain ⟨e,he⟩:=Qyi (p:=P) (a:=a) (at_:=(Mode.plain == .atomic)) hv
      simp only [he] at hr
      cases hr
  | store a v k _ ih =>
    intro F Z w W es es' r w' h hv hr
    have key : ∀ (x : Value), (∀ c, x ≠ .agg c) → (∀ c, x ≠ .tuple c) → Sem.runT P (.store .plain a x k) w es = (match w.cell? a with
        | some _ => if w.frozen? a then (.halt (.unsupported (.unsafePointer "a write to bytes that a string shares")) w, es) else k.runT P (w.setCell a x) (es.push ⟨.cell a, true, false⟩)
        | none=>match w.farStore P a x false with
          | .ok (w,touched)=>k.runT P w (es++touched.toArray.map (⟨.cell ·,true,false⟩))
          | .error h=>(.halt h w,es))∧Sem.runT P (.store .plain a x k) W es=(match W.cell? a with
        | some _ => if W.frozen? a then (.halt (.unsupported (.unsafePointer "a write to bytes that a string shares")) W, es) else k.runT P (W.setCell a x) (es.push ⟨.cell a, true, false⟩)
        | none=>match W.farStore P a x false with
          | .ok (w,touched)=>k.runT P w (es++touched.toArray.map (⟨.cell ·,true,false⟩))
          | .error h=>(.halt h W,es)):=by
      intro x h1 h2
      cases x<;>first | exact absurd rfl (h1 _) | exact absurd rfl (h2 _) | exact ⟨rfl,rfl⟩
    rcases Classical.em ((∃ c,v=.agg c)∨∃ c,v=.tuple c) with hbad | hok
    · exfalso
      rcases hbad with ⟨c,rfl⟩ | ⟨c,rfl⟩<;>simp [Sem.runT] at hr
    · obtain ⟨k1,k2⟩:=key v (fun c e=>hok (.inl ⟨c,e⟩)) (fun c e=>hok (.inr ⟨c,e⟩))
      rw [k1] at hr
      rw [k2]
      cases hc:w.cell? a with
      | none =>
        rw [hc] at hr
        obtain ⟨e,he⟩:=Qyj (p:=P) (a:=a) (v:=v) (at_:=false) hv
        simp only [he] at hr
        cases hr
      | some u =>
        rw [hc] at hr
        obtain ⟨hF,hC⟩:=Qhu h hc
        rw [hC]
        cases hf:w.frozen? a with
        | true=>simp [hf] at hr
        | false =>
          obtain ⟨hz,hf2⟩:=Qup h hc hf
          simp only [hf,Bool.false_eq_true,if_false] at hr
          simp only [hf2,Bool.false_eq_true,if_false]
          obtain ⟨F',W',us,h1,h2,h3,h4,h5⟩:=ih (Qlx h v hF hz) (QEw hv) hr
          have base:AgrTo F Z W F (w.setCell a v) (W.setCell a v):=⟨Qlx h v hF hz,fun _ x=>x,fun _ x=>.inl x,by rw [Zj];exact Nat.le_refl _,fun b _ hb=>by
            have hne:b≠a.block:=fun e=>by
              subst e
              rcases hb with hb | hb
              · exact hb hF
              · exact hz hb
            rw [Jc,if_neg hne],rfl,rfl,rfl⟩
          refine ⟨F',W',#[⟨.cell a,true,false⟩]++us,h1,base.trans h2,h3,by rw [h4];apply Array.toList_inj.1;simp,fun e he=>?_⟩
          rcases Array.mem_append.1 he with he | he
          · simp at he;subst he
            exact .inl ⟨a,.cell a,rfl,h2.more _ hF,fun _=>hz⟩
          · exact h5 e he
  | new o k ho _ ih =>
    intro F Z w W es es' r w' h hv hr
    simp only [Sem.runT] at hr ⊢
    rw [h.size]
    have hZ:¬ Z w.heap.size:=fun hz=>by
      obtain ⟨cs,e,fz,h1,_⟩:=h.shr _ (h.zf _ hz) hz
      have:=(Array.getElem?_eq_some_iff.1 h1).1
      omega
    have base:AgrTo F Z W (fun b=>F b∨b=w.heap.size) { w with heap:=w.heap.push o } { W with heap:=W.heap.push o }:=by
      refine ⟨⟨h.tape,h.drawn,h.os,h.output,by simp [h.size],fun b hb hz=>?_,fun b hb hz=>?_,fun b hb hlt=>?_,fun b hz=>.inl (h.zf b hz)⟩,fun b hb=>.inl hb,fun b hb=>?_,by simp,fun b hlt _=>?_,rfl,rfl,rfl⟩
      · show (W.heap.push o)[b]?=(w.heap.push o)[b]?
        rw [Array.getElem?_push,Array.getElem?_push,h.size]
        split
        · rfl
        · rename_i hne
          rcases hb with hb | hb
          · exact h.own b hb hz
          · exact absurd hb hne
      · have hb':F b:=h.zf b hz
        obtain ⟨cs,e,fz,h1,h2⟩:=h.shr b hb' hz
        have hlt:=(Array.getElem?_eq_some_iff.1 h1).1
        refine ⟨cs,e,fz,?_,?_⟩
        · show (w.heap.push o)[b]?=_
          rw [Array.getElem?_push,if_neg (by omega)];exact h1
        · show (W.heap.push o)[b]?=_
          rw [Array.getElem?_push,if_neg (by rw [h.size];omega)];exact h2
      · have hne:b≠w.heap.size:=fun e=>hb (.inr e)
        show (w.heap.push o)[b]?=_
        rw [Array.getElem?_push,if_neg hne]
        refine h.hid b (fun e=>hb (.inl e)) ?_
        simp at hlt;omega
      · rcases hb with hb | hb
        · exact .inl hb
        · right;rw [h.size];constructor
          · omega
          · simp [h.size];omega
      · show (W.heap.push o)[b]?=_
        rw [Array.getElem?_push,if_neg (by omega)]
    have hv2:NoView { w with heap:=w.heap.push o }:=fun b x u e=>by
      change (w.heap.push o)[b]?=_ at e
      rw [Array.getElem?_push] at e
      split at e
      · cases e;cases ho
      · exact hv b x u e
    obtain ⟨F',W',us,h1,h2,h3,h4,h5⟩:=ih w.heap.size base.agr hv2 hr
    exact ⟨F',W',us,h1,base.trans h2,h3,h4,h5⟩
  | choose q k _ ih =>
    intro F Z w W es es' r w' h hv hr
    simp only [Sem.runT] at hr ⊢
    by_cases hq:q.forced=true
    · rw [if_pos hq] at hr ⊢
      exact ih 0 h hv hr
    · rw [if_neg hq] at hr ⊢
      have hq2:W.tape W.drawn q=w.tape w.drawn q:=by rw [h.tape,h.drawn]
      rw [hq2]
      have h2:Agr F Z { w with drawn:=w.drawn+1 } { W with drawn:=W.drawn+1 }:=⟨h.tape,by show W.drawn+1=w.drawn+1;rw [h.drawn],h.os,h.output,h.size,h.own,h.shr,h.hid,h.zf⟩
      obtain ⟨F',W',us,h1,h2,h3,h4,h5⟩:=ih _ h2 hv hr
      exact ⟨F',W',us,h1,⟨h2.agr,h2.more,h2.new,h2.size,h2.keep,h2.same⟩,h3,h4,h5⟩
  | program k _ ih =>
    intro F Z w W es es' r w' h hv hr
    simp only [Sem.runT] at hr ⊢
    exact ih h hv hr
  | room k _ ih =>
    intro F Z w W es es' r w' h hv hr
    simp only [Sem.runT] at hr ⊢
    obtain ⟨F',W',us,h1,h2,h3,h4,h5⟩:=ih h hv hr
    refine ⟨F',W',#[⟨.mark .noRoom,false,true⟩]++us,h1,h2,h3,by rw [h4];apply Array.toList_inj.1;simp,fun e he=>?_⟩
    rcases Array.mem_append.1 he with he | he
    · simp at he;subst he
      exact .inr (.inl rfl)
    · exact h5 e he
  | ext f k _ ih =>
    intro F Z w W es es' r w' h hv hr
    simp only [Sem.runT] at hr ⊢
    obtain ⟨F',W',us,h1,h2,h3,h4,h5⟩:=ih h hv hr
    refine ⟨F',W',#[⟨.mark (.extern f),false,true⟩]++us,h1,h2,h3,by rw [h4];apply Array.toList_inj.1;simp,fun e he=>?_⟩
    rcases Array.mem_append.1 he with he | he
    · simp at he;subst he
      exact .inr (.inr ⟨f,rfl⟩)
    · exact h5 e he
  | doom m hm =>
    intro F Z w W es es' r w' h hv hr
    exact absurd (by rw [hr]) (hm w es r w')
  | same m m' hm _ ih =>
    intro F Z w W es es' r w' h hv hr
    rw [hm] at hr ⊢
    exact ih h hv hr
  | halt x =>
    intro F Z w W es es' r w' h hv hr
    simp only [Sem.runT] at hr
    cases hr
def X6 (P : Program) {α : Type} (m : Sem α) (w : World) : Prop := ∀ {F Z : Nat → Prop} {W : World} {es es' : Array Event} {r : α} {w' : World}, Agr F Z w W → NoView w → m.runT P w es = (.ok r w', es') →
    ∃ F' W' us,m.runT P W es=(.ok r W',es')∧AgrTo F Z W F' w' W'∧NoView w'∧es'=es++us∧∀ e∈us,EvOk F' Z e
theorem Tame.fr0 {α:Type} {P:Program} {m:Sem α} {w:World} (h:Tame P m):X6 P m w:=fun hA hv hr=>frame h hA hv hr
structure Whole (w:World) (r:Nat) (o:Obj):Prop where
  at_:w.heap[r]?=some o
  row:∀ cs e fz,o≠.cells cs e fz
  jk:o≠XJ
theorem Qlw {F Z:Nat→Prop} {w W:World} (h:Agr F Z w W) {r:Nat} {o:Obj} (hb:Whole w r o):F r∧¬ Z r∧W.heap[r]?=some o:=by
  obtain ⟨hb,h1,h2⟩:=hb
  have hlt:=(Array.getElem?_eq_some_iff.1 hb).1
  have hF:F r:=Classical.byContradiction fun hn=>by rw [h.hid r hn hlt] at hb;cases hb;exact h2 rfl
  have hz:¬ Z r:=fun hz=>by
    obtain ⟨cs,e,fz,h3,_⟩:=h.shr r hF hz
    rw [h3] at hb;cases hb;exact h1 _ _ _ rfl
  exact ⟨hF,hz,(h.own r hF hz).trans hb⟩
theorem Qur {F Z:Nat→Prop} {w W:World} (h:Agr F Z w W) {r:Nat} (o:Obj) (hF:F r) (hz:¬ Z r):Agr F Z { w with heap:=w.heap.setIfInBounds r o } { W with heap:=W.heap.setIfInBounds r o } where
  tape:=h.tape
  drawn:=h.drawn
  os:=h.os
  output:=h.output
  size:=by show (W.heap.setIfInBounds r o).size=(w.heap.setIfInBounds r o).size;simp [h.size]
  own:=fun b hb hzb=>by
    show (W.heap.setIfInBounds r o)[b]?=(w.heap.setIfInBounds r o)[b]?
    rw [Array.getElem?_setIfInBounds,Array.getElem?_setIfInBounds,h.own b hb hzb,h.size]
  shr:=fun b hb hzb=>by
    have hne:r≠b:=fun e=>hz (e▸hzb)
    show ∃ cs e fz,(w.heap.setIfInBounds r o)[b]?=_∧(W.heap.setIfInBounds r o)[b]?=_
    rw [Array.getElem?_setIfInBounds_ne hne,Array.getElem?_setIfInBounds_ne hne];exact h.shr b hb hzb
  hid:=fun b hb hlt=>by
    have hne:r≠b:=fun e=>hb (e▸hF)
    show (w.heap.setIfInBounds r o)[b]?=_
    rw [Array.getElem?_setIfInBounds_ne hne]
    have hlt:b < (w.heap.setIfInBounds r o).size:=hlt
    exact h.hid b hb (by simpa using hlt)
  zf:=h.zf
theorem QEx {w:World} {r:Nat} {o:Obj} (h:NoView w) (ho:∀ a u,o≠.view a u):NoView { w with heap:=w.heap.setIfInBounds r o }:=fun b x u e=>by
  have e:(w.heap.setIfInBounds r o)[b]?=some (.view x u):=e
  rw [Array.getElem?_setIfInBounds] at e
  split at e
  · split at e
    · cases e;exact ho _ _ rfl
    · cases e
  · exact h b x u e
theorem Qip {α : Type} {P : Program} {m : Sem α} {w : World} {b : Nat} {o : Obj} {v : α} (hb : Whole w b o)
    (hm:∀ W ev,W.heap[b]?=some o→m.runT P W ev=(.ok v W,ev.push ⟨.obj b,false,false⟩)):X6 P m w:=by
  intro F Z W ev ev' r w' hA hv hr
  obtain ⟨hF,hz,hW⟩:=Qlw hA hb
  rw [hm w ev hb.at_] at hr
  cases hr
  refine ⟨F,W,#[⟨.obj b,false,false⟩],hm W ev hW,⟨hA,fun _ x=>x,fun _ x=>.inl x,Nat.le_refl _,fun _ _ _=>rfl,rfl,rfl,rfl⟩,hv,by simp,fun e he=>?_⟩
  simp at he;subst he
  exact .inl ⟨⟨b,0,none⟩,.obj b,rfl,hF,fun h=>by cases h⟩
theorem Qcu {α : Type} {P : Program} {m : Sem α} {w : World} {b : Nat} {o o' : Obj} {v : α} (hb : Whole w b o) (ho : ∀ a u, o' ≠ .view a u)
    (hm:∀ W ev,W.heap[b]?=some o→m.runT P W ev=(.ok v { W with heap:=W.heap.setIfInBounds b o' },(ev.push ⟨.obj b,false,false⟩).push ⟨.obj b,true,false⟩)):X6 P m w:=by
  intro F Z W ev ev' r w' hA hv hr
  obtain ⟨hF,hz,hW⟩:=Qlw hA hb
  rw [hm w ev hb.at_] at hr
  cases hr
  refine ⟨F,_,#[⟨.obj b,false,false⟩,⟨.obj b,true,false⟩],hm W ev hW,⟨Qur hA _ hF hz,fun _ x=>x,fun _ x=>.inl x,by show W.heap.size≤(W.heap.setIfInBounds b o').size;rw [Array.size_setIfInBounds];exact Nat.le_refl _,fun i _ hi=>?_,rfl,rfl,rfl⟩,QEx hv ho,by apply Array.toList_inj.1;simp,fun e he=>?_⟩
  · have hne : b ≠ i := fun e => by
      subst e
      rcases hi with hi | hi
      · exact hi hF
      · exact hz hi
    exact Array.getElem?_setIfInBounds_ne hne
  · simp at he
    rcases he with rfl | rfl
    · exact .inl ⟨⟨b,0,none⟩,.obj b,rfl,hF,fun h=>by cases h⟩
    · exact .inl ⟨⟨b,0,none⟩,.obj b,rfl,hF,fun _=>hz⟩
end Go.Gw
