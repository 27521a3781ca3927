/- Laws of the walk. Condition: each theorem says its own. -/
import Derived.Conc.LeavingOf
import Derived.Deep.DeepHandedRow
import Derived.SevenTiedAt
import Derived.Conc.Own5
import Derived.Conc.Listed
import Derived.Conc.CompanyDraw
set_option linter.unusedVariables false
set_option linter.unusedSimpArgs false
set_option linter.unusedSectionVars false
open Array renaming getElem?_setIfInBounds_ne→Ea,getElem?_setIfInBounds→Eb,getElem?_push→Ec,mem_append→Ed
open Nat renaming le_refl→Ee,lt_of_lt_of_le→Ef,lt_or_ge→Eg,le_trans→Eh
section
namespace Go
section
variable {H:Type} {enc:TypeId×Value->H}
open Go.Conc
theorem QUd {a:Assume} {C:Checked} {os:Os} {f:FuncId} {fn:Func} {s:ChangeSpec} {conds:List PathCond} {apart fresh handsOn again:Bool} {laid:List (String×DataW Unit)}
  (own:ownKnob C.prog.godebug=none) (started:os.Started) (hfn:C.prog.funcs[f]?=some fn)
  (witness:∃ (w:World) (tape:Tape) (i:Input),w.os=os/\(w.forCall tape i).Shaped C.prog/\i.vars=[]/\Input.okWide C.prog (w.forCall tape i) .any w.heap.size f i /\
   (OpenSpec.ofChange s).preRow enc C.prog fn conds apart laid (w.forCall tape i).memory i.args/\a.holds C.prog (lone (Frame.enter C.prog f i.args .normal) [] (w.forCall tape i)))
  (runs:∀ (W:World) (base:Nat) (args:Array Value) (ds gs:List (DataW H)) (before:List MemPlace),
   (∀ (j:Nat) t v,fn.params[j]?=some t->args[j]?=some v->Value.okWide C.prog W .any base t v) ->
   DataW.Whole enc C.prog fn.params.toList s.vars apart W args.toList ds gs before ->
   (DataW.weightsEach C.prog (fn.params.toList++s.plain.varTypes C.prog) (ds++gs)).all (·<=reachBytes)=true ->
   laidMetH C.prog laid W ->
   a.holds C.prog (lone (Frame.enter C.prog f args .normal) [] W) ->
   ∃ M last o w' t',runNT C.prog (M+1) (solo (G (Frame.enter C.prog f args .normal) []) W) #[]=(.ended o w',t')/\runN C.prog M (solo (G (Frame.enter C.prog f args .normal) []) W)=.next last /\
    step C.prog last=.ended o w'/\Conc.Good C.prog (fun v W'=>s.post enc C.prog fn apart fresh handsOn again W args v W') last o w' t') :
  ReturnsInLeavingWide a C os f .any ((OpenSpec.ofChange s).preRow enc C.prog fn conds apart laid) (s.post enc C.prog fn apart fresh handsOn again):=by
 refine returnsInLeavingWide_of_good own started witness ?_;intro w tape i _ _ _ hok hpre hholds;obtain ⟨_,_,_,fn',hfn',_,_,_,_,hval⟩:=hok;have e:fn'=fn:=Option.some.inj (hfn'.symm.trans hfn);subst e;obtain ⟨⟨hp,hl⟩,hz⟩:=hpre;obtain ⟨ds,gs,before,hw,hc,hk⟩:=OpenSpec.pre_parts hp;have hw':=DataW.Whole.of_heap (w':=w.forCall tape i) (by rfl) hw;obtain ⟨M,last,o,w',t',h1,h2,h3,h4⟩:=runs (w.forCall tape i) w.heap.size i.args ds gs before hval hw' (hz.weights hw) (hl.of_heap (by rfl)) hholds;exact ⟨M,last,o,w',t',h1,h2,h3,h4.mono fun v hp=>ChangeSpec.post_blind hp⟩
end
theorem Claim7.holds_tied_goes_at (Lk:Looks) {p:Pinned} {s:OpenSpec} {c:OpenClaim} (kinds:List LaidKind) (tests:Bool) (har:Bool×String) (lk g:Bool)
  (hc:c.holds p s) (hw:c.wfByText s=true) (htie:c.laidByTextAt Lk p kinds tests)
  (hst:c.start=.entering) (hnb:c.noBlocks=false/\c.again=false) (hm:p.checked.prog.mainIs=some (har.1,har.2.toList)) (hn:(!har.1&&har.2.isEmpty&&!lk)=false)
  (hl:∀ f fn,p.checked.prog.funcNamed c.func=some f->p.checked.prog.funcs[f]?=some fn->lk=p.checked.prog.looks []/\∀ (j:Nat) t,fn.params[j]?=some t->p.checked.prog.wantsStandIn t=false)
  (hg:g=c.goesBy p.checked.prog) :
  Claim7.holds p (.plain s) { stood:={ row:=c,standIns:=[],harness:=har,looks:=lk },kinds:=[],alts:=[],goes:=g,laidByText:=true,laidKinds:=kinds,laidTests:=tests,laidLooks:=Lk }:=by
 have h6:∀ r:OpenClaim,Claim7.isSixth { stood:={ row:=r,standIns:=[],harness:=har,looks:=lk },kinds:=[] }=false:=fun r=>by simpa [Claim7.isSixth] using hn
 refine ⟨?_,(fun D hD=>by cases hD),htie,(fun h=>by cases h),hg⟩;exact Claim7.tied_new_at Lk kinds tests (Claim7.new_of_sixth hc har lk hst hnb hm (h6 c) hl) hw
end Go

end
section
set_option linter.unusedVariables false
namespace Go.Gw
open Go

def YM:Obj:=.coro none
structure Agr (F Z:Nat->Prop) (w W:World):Prop where
 tape:W.tape=w.tape
 drawn:W.drawn=w.drawn
 os:W.os=w.os
 output:W.output=w.output
 size:W.heap.size=w.heap.size
 own:∀ b,F b->¬ Z b->W.heap[b]?=w.heap[b]?
 shr:∀ b,F b->Z b->∃ cs e fz,w.heap[b]?=some (.cells cs e (0,cs.size))/\W.heap[b]?=some (.cells cs e fz)
 hid:∀ b,¬ F b->b < w.heap.size->w.heap[b]?=some YM
 zf:∀ b,Z b->F b
inductive AtL:Loc->Addr->Prop
 | cell (a:Addr):AtL (.cell a) a
 | obj (r:Nat):AtL (.obj r) ⟨r,0,none⟩
theorem AtL.inj {l:Loc} {a b:Addr} (h:AtL l a) (k:AtL l b):a=b:=by
 cases h<;>cases k<;>rfl
theorem AtL.mem {l:Loc} {a:Addr} (h:AtL l a):l.isMemory=true:=by
 cases h<;>rfl
def EvOk (F Z:Nat->Prop) (e:Event):Prop:=(∃ a,AtL e.loc a/\e.sync=false/\F a.block/\(e.write=true->¬ Z a.block))\/e.loc=.mark .noRoom\/∃ f,e.loc=.mark (.extern f)
structure AgrTo (F Z:Nat->Prop) (W:World) (F':Nat->Prop) (w' W':World):Prop where
 agr:Agr F' Z w' W'
 more:∀ b,F b->F' b
 new:∀ b,F' b->F b\/W.heap.size<=b/\b < W'.heap.size
 size:W.heap.size<=W'.heap.size
 keep:∀ b,b < W.heap.size->¬ F b\/Z b->W'.heap[b]?=W.heap[b]?
 same:W'.tape=W.tape/\W'.os=W.os/\W'.output=W.output
def Obj.still:Obj->Bool
 | .view .. | .chan ..=>false
 | _=>true
inductive Tame (P:Program) {α:Type}:Sem α->Prop
 | pure (a:α):Tame P (.pure a)
 | load (a:Addr) (k:Value->Sem α):(∀ v,Tame P (k v))->Tame P (.load .plain a k)
 | store (a:Addr) (v:Value) (k:Sem α):Tame P k->Tame P (.store .plain a v k)
 | new (o:Obj) (k:Nat->Sem α):Obj.still o=true->(∀ n,Tame P (k n))->Tame P (.new o k)
 | choose (q:Question) (k:Nat->Sem α):(∀ n,Tame P (k n))->Tame P (.choose q k)
 | program (k:Program->Sem α):Tame P (k P)->Tame P (.program k)
 | room (k:Sem α):Tame P k->Tame P (.mark .noRoom k)
 | ext (f:FuncId) (k:Sem α):Tame P k->Tame P (.mark (.extern f) k)
 | doom (m:Sem α):(∀ w es r w',(m.runT P w es).1≠.ok r w')->Tame P m
 | same (m m':Sem α):(∀ w es,m.runT P w es=m'.runT P w es)->Tame P m'->Tame P m
 | halt (h:Halt):Tame P (.halt h)
theorem Tame.bind {P:Program} {α β:Type} {m:Sem α} {f:α->Sem β} (h:Tame P m) (hf:∀ a,Tame P (f a)):Tame P (m.bind f):=by
 induction h with
 | room k _ ih=>exact .room _ ih
 | ext f k _ ih=>exact .ext f _ ih
 | same m m' hm _ ih=>exact .same _ _ (fun w es=>by rw [Go.Sem.runT_bind',Go.Sem.runT_bind',hm]) ih
 | doom m hm =>
  refine .doom _ fun w es r w'=>?_;rw [Go.Sem.runT_bind']
  grind
 | pure a=>exact hf a
 | load a k _ ih=>exact .load a _ fun v=>ih v
 | store a v k _ ih=>exact .store a v _ ih
 | new o k ho _ ih=>exact .new o _ ho fun n=>ih n
 | choose q k _ ih=>exact .choose q _ fun n=>ih n
 | program k _ ih=>exact .program _ ih
 | halt h=>exact .halt h
def NoView (w:World):Prop:=∀ (b:Nat) (a:Addr) (u:TypeId),w.heap[b]?≠some (Obj.view a u)

theorem Qpw {F Z:Nat->Prop} {w W:World} (h:Agr F Z w W) {a:Addr} {v:Value} (hc:w.cell? a=some v):F a.block/\W.cell? a=some v:=by
 have hF:F a.block:=by
  refine Classical.byContradiction fun hn=>?_;unfold World.cell? at hc;rcases Eg a.block w.heap.size with hlt | hge
  ·rw [h.hid _ hn hlt] at hc;trivial
  simp_all
 refine ⟨hF,?_⟩;unfold World.cell? at hc ⊢;rcases Classical.em (Z a.block) with hz | hz
 ·obtain ⟨cs,e,fz,h1,h2⟩:=h.shr _ hF hz;simp_all
 ·rw [h.own _ hF hz];exact hc
theorem QGh {F Z:Nat->Prop} {w W:World} (h:Agr F Z w W) {a:Addr} {v:Value} (hc:w.cell? a=some v) (hf:w.frozen? a=false):¬ Z a.block/\W.frozen? a=false:=by
 have hF:=(Qpw h hc).1;have hz:¬ Z a.block:=fun hz=>by
  obtain ⟨cs,e,fz,h1,h2⟩:=h.shr _ hF hz;unfold World.frozen? at hf;unfold World.cell? at hc;simp_all
 refine ⟨hz,?_⟩;unfold World.frozen? at hf ⊢;rw [h.own _ hF hz];exact hf
theorem Qca {w:World} {a:Addr} {v:Value} {b:Nat}:(w.setCell a v).heap[b]?=if b=a.block then (w.heap[b]?).map (fun o=>match o with | .cells c elem frozen=>.cells (if a.spot.isSome then c else c.setIfInBounds a.off v) elem frozen | o=>o) else w.heap[b]?:=by
 unfold World.setCell
 grind
theorem Qav {w:World} {a:Addr} {v:Value}:(w.setCell a v).heap.size=w.heap.size:=by simp
theorem Qwt {F Z:Nat->Prop} {w W:World} (h:Agr F Z w W) {a:Addr} (v:Value) (hF:F a.block) (hz:¬ Z a.block):Agr F Z (w.setCell a v) (W.setCell a v) where
 tape:=h.tape
 drawn:=h.drawn
 os:=h.os
 output:=h.output
 size:=by rw [Qav,Qav,h.size]
 own:=fun b hb hzb=>by rw [Qca,Qca,h.own b hb hzb]
 shr:=fun b hb hzb=>by
  have hne:b≠a.block:=fun e=>hz (e▸hzb)
  rw [Qca,Qca,if_neg hne,if_neg hne];exact h.shr b hb hzb
 hid:=fun b hb hlt=>by
  have hne:b≠a.block:=fun e=>hb (e▸hF)
  rw [Qca,if_neg hne];exact h.hid b hb (by simp_all)
 zf:=h.zf
theorem QSj {w:World} {a:Addr} {v:Value} (h:NoView w):NoView (w.setCell a v):=fun b x u e=>by
 rw [Qca] at e;split at e
 ·cases hb:w.heap[b]? with
  | none=>simp_all
  | some o =>
   rw [hb] at e;cases o<;>simp at e
   rename_i x' u';exact h b x' u' hb
 ·exact h b x u e
theorem AgrTo.trans {F Z F1 F2:Nat->Prop} {W W1 W2 w1 w2:World} (h:AgrTo F Z W F1 w1 W1) (k:AgrTo F1 Z W1 F2 w2 W2):AgrTo F Z W F2 w2 W2 where
 agr:=k.agr
 more:=fun b hb=>k.more b (h.more b hb)
 new:=fun b hb=>by
  rcases k.new b hb with h1 | h1
  ·rcases h.new b h1 with h2 | h2
   ·exact .inl h2
   ·exact .inr ⟨h2.1,Ef h2.2 k.size⟩
  ·exact .inr ⟨Eh h.size h1.1,h1.2⟩
 size:=Eh h.size k.size
 same:=⟨k.same.1.trans h.same.1,k.same.2.1.trans h.same.2.1,k.same.2.2.trans h.same.2.2⟩
 keep:=fun b hlt hb=>by
  have h1:=h.keep b hlt hb;rw [<-h1];refine k.keep b (Ef hlt h.size) ?_;rcases hb with hb | hb
  ·left;intro hF1;rcases h.new b hF1 with h2 | h2
   ·exact hb h2
   ·omega
  grind
theorem QKp {p:Program} {w:World} {a:Addr} {at_:Bool} (hv:NoView w):∃ e,w.farLoad p a at_=.error e:=by
 unfold World.farLoad;split
 ·rename_i x u hb;exact absurd hb (hv _ _ _)
 simp
theorem QKq {p:Program} {w:World} {a:Addr} {v:Value} {at_:Bool} (hv:NoView w):∃ e,w.farStore p a v at_=.error e:=by
 unfold World.farStore;split
 ·rename_i x u hb;exact absurd hb (hv _ _ _)
 simp
theorem frame {α:Type} {P:Program} {m:Sem α} (hm:Tame P m):∀ {F Z:Nat->Prop} {w W:World} {es es':Array Event} {r:α} {w':World},Agr F Z w W->NoView w->m.runT P w es=(.ok r w',es') ->
    ∃ F' W' us,m.runT P W es=(.ok r W',es')/\AgrTo F Z W F' w' W'/\NoView w'/\es'=es++us/\∀ e∈us,EvOk F' Z e:=by
  induction hm with
  | pure a =>
    intro F Z w W es es' r w' h hv hr;simp only [Sem.runT] at hr;cases hr;exact ⟨F,W,#[],rfl,⟨h,fun _ x=>x,fun _ x=>.inl x,Ee _,fun _ _ _=>rfl,rfl,rfl,rfl⟩,hv,by simp,by simp⟩
  | load a k _ ih =>
    intro F Z w W es es' r w' h hv hr;simp only [Sem.runT] at hr ⊢;cases hc:w.cell? a with
    | some v =>
      rw [hc] at hr;obtain ⟨hF,hC⟩:=Qpw h hc;rw [hC];obtain ⟨F',W',us,h1,h2,h3,h4,h5⟩:=ih v h hv hr;refine ⟨F',W',#[⟨.cell a,false,false⟩]++us,h1,h2,h3,by grind,fun e he=>?_⟩;rcases Ed.1 he with he | he
      · simp at he;subst he;exact .inl ⟨a,.cell a,rfl,h2.more _ hF,fun h=>by cases h⟩
      grind
    | none =>
      rw [hc] at hr;obtain ⟨e,he⟩:=QKp (p:=P) (a:=a) (at_:=(Mode.plain == .atomic)) hv;simp_all
  | store a v k _ ih =>
    intro F Z w W es es' r w' h hv hr;have key : ∀ (x : Value), (∀ c, x ≠ .agg c) -> (∀ c, x ≠ .tuple c) -> Sem.runT P (.store .plain a x k) w es = (match w.cell? a with
        | some _ => if w.frozen? a then (.halt (.unsupported (.unsafePointer "a write to bytes that a string shares")) w, es) else k.runT P (w.setCell a x) (es.push ⟨.cell a, true, false⟩)
        | none=>match w.farStore P a x false with
          | .ok (w,touched)=>k.runT P w (es++touched.toArray.map (⟨.cell ·,true,false⟩))
          | .error h=>(.halt h w,es))/\Sem.runT P (.store .plain a x k) W es=(match W.cell? a with
        | some _ => if W.frozen? a then (.halt (.unsupported (.unsafePointer "a write to bytes that a string shares")) W, es) else k.runT P (W.setCell a x) (es.push ⟨.cell a, true, false⟩)
        | none=>match W.farStore P a x false with
          | .ok (w,touched)=>k.runT P w (es++touched.toArray.map (⟨.cell ·,true,false⟩))
          | .error h=>(.halt h W,es)):=by
      intro x h1 h2;cases x<;>first | exact absurd rfl (h1 _) | exact absurd rfl (h2 _) | trivial
    rcases Classical.em ((∃ c,v=.agg c)\/∃ c,v=.tuple c) with hbad | hok
    · exfalso;rcases hbad with ⟨c,rfl⟩ | ⟨c,rfl⟩<;>simp [Sem.runT] at hr
    · obtain ⟨k1,k2⟩:=key v (fun c e=>hok (.inl ⟨c,e⟩)) (fun c e=>hok (.inr ⟨c,e⟩));rw [k1] at hr;rw [k2];cases hc:w.cell? a with
      | none =>
        rw [hc] at hr;obtain ⟨e,he⟩:=QKq (p:=P) (a:=a) (v:=v) (at_:=false) hv;simp_all
      | some u =>
        rw [hc] at hr;obtain ⟨hF,hC⟩:=Qpw h hc;rw [hC];cases hf:w.frozen? a with
        | true=>grind
        | false =>
          obtain ⟨hz,hf2⟩:=QGh h hc hf;simp only [hf,Bool.false_eq_true,if_false] at hr;simp only [hf2,Bool.false_eq_true,if_false];obtain ⟨F',W',us,h1,h2,h3,h4,h5⟩:=ih (Qwt h v hF hz) (QSj hv) hr;have base:AgrTo F Z W F (w.setCell a v) (W.setCell a v):=⟨Qwt h v hF hz,fun _ x=>x,fun _ x=>.inl x,by simp,fun b _ hb=>by
            have hne:b≠a.block:=fun e=>by
              simp_all
            rw [Qca,if_neg hne],rfl,rfl,rfl⟩
          refine ⟨F',W',#[⟨.cell a,true,false⟩]++us,h1,base.trans h2,h3,by simp_all,fun e he=>?_⟩;rcases Ed.1 he with he | he
          · simp at he;subst he;exact .inl ⟨a,.cell a,rfl,h2.more _ hF,fun _=>hz⟩
          grind
  | new o k ho _ ih =>
    intro F Z w W es es' r w' h hv hr;simp only [Sem.runT] at hr ⊢;rw [h.size];have hZ:¬ Z w.heap.size:=fun hz=>by
      obtain ⟨cs,e,fz,h1,_⟩:=h.shr _ (h.zf _ hz) hz;simp_all
    have base:AgrTo F Z W (fun b=>F b\/b=w.heap.size) { w with heap:=w.heap.push o } { W with heap:=W.heap.push o }:=by
      refine ⟨⟨h.tape,h.drawn,h.os,h.output,by simp [h.size],fun b hb hz=>?_,fun b hb hz=>?_,fun b hb hlt=>?_,fun b hz=>.inl (h.zf b hz)⟩,fun b hb=>.inl hb,fun b hb=>?_,by simp,fun b hlt _=>?_,rfl,rfl,rfl⟩
      · show (W.heap.push o)[b]?=(w.heap.push o)[b]?;rw [Ec,Ec,h.size];split
        · rfl
        · rename_i hne;rcases hb with hb | hb
          · exact h.own b hb hz
          trivial
      · have hb':F b:=h.zf b hz;obtain ⟨cs,e,fz,h1,h2⟩:=h.shr b hb' hz
        grind
      · have hne:b≠w.heap.size:=fun e=>hb (.inr e)
        show (w.heap.push o)[b]?=_;rw [Ec,if_neg hne];refine h.hid b (fun e=>hb (.inl e)) ?_
        grind
      · rcases hb with hb | hb
        · exact .inl hb
        · right;rw [h.size];constructor
          · omega
          · simp [h.size];omega
      grind
    have hv2:NoView { w with heap:=w.heap.push o }:=fun b x u e=>by
      change (w.heap.push o)[b]?=_ at e;rw [Ec] at e;split at e
      · cases e;cases ho
      · exact hv b x u e
    obtain ⟨F',W',us,h1,h2,h3,h4,h5⟩:=ih w.heap.size base.agr hv2 hr;exact ⟨F',W',us,h1,base.trans h2,h3,h4,h5⟩
  | choose q k _ ih =>
    intro F Z w W es es' r w' h hv hr;simp only [Sem.runT] at hr ⊢;by_cases hq:q.forced=true
    · grind
    · rw [if_neg hq] at hr ⊢;have hq2:W.tape W.drawn q=w.tape w.drawn q:=by rw [h.tape,h.drawn]
      rw [hq2];have h2:Agr F Z { w with drawn:=w.drawn+1 } { W with drawn:=W.drawn+1 }:=⟨h.tape,by show W.drawn+1=w.drawn+1;rw [h.drawn],h.os,h.output,h.size,h.own,h.shr,h.hid,h.zf⟩;obtain ⟨F',W',us,h1,h2,h3,h4,h5⟩:=ih _ h2 hv hr;exact ⟨F',W',us,h1,⟨h2.agr,h2.more,h2.new,h2.size,h2.keep,h2.same⟩,h3,h4,h5⟩
  | program k _ ih =>
    trivial
  | room k _ ih =>
    intro F Z w W es es' r w' h hv hr;simp only [Sem.runT] at hr ⊢;obtain ⟨F',W',us,h1,h2,h3,h4,h5⟩:=ih h hv hr;refine ⟨F',W',#[⟨.mark .noRoom,false,true⟩]++us,h1,h2,h3,by simp_all,fun e he=>?_⟩;rcases Ed.1 he with he | he
    · simp at he;subst he;exact .inr (.inl rfl)
    grind
  | ext f k _ ih =>
    intro F Z w W es es' r w' h hv hr;simp only [Sem.runT] at hr ⊢;obtain ⟨F',W',us,h1,h2,h3,h4,h5⟩:=ih h hv hr;refine ⟨F',W',#[⟨.mark (.extern f),false,true⟩]++us,h1,h2,h3,by simp_all,fun e he=>?_⟩;rcases Ed.1 he with he | he
    · simp at he;subst he;exact .inr (.inr ⟨f,rfl⟩)
    grind
  | doom m hm =>
    simp_all
  | same m m' hm _ ih =>
    grind
  | halt x =>
    simp
def YY (P:Program) {α:Type} (m:Sem α) (w:World):Prop:=∀ {F Z:Nat->Prop} {W:World} {es es':Array Event} {r:α} {w':World},Agr F Z w W->NoView w->m.runT P w es=(.ok r w',es') ->
  ∃ F' W' us,m.runT P W es=(.ok r W',es')/\AgrTo F Z W F' w' W'/\NoView w'/\es'=es++us/\∀ e∈us,EvOk F' Z e
theorem Tame.fr0 {α:Type} {P:Program} {m:Sem α} {w:World} (h:Tame P m):YY P m w:=fun hA hv hr=>frame h hA hv hr
structure Whole (w:World) (r:Nat) (o:Obj):Prop where
 at_:w.heap[r]?=some o
 row:∀ cs e fz,o≠.cells cs e fz
 jk:o≠YM
theorem Qws {F Z:Nat->Prop} {w W:World} (h:Agr F Z w W) {r:Nat} {o:Obj} (hb:Whole w r o):F r/\¬ Z r/\W.heap[r]?=some o:=by
 obtain ⟨hb,h1,h2⟩:=hb;have hlt:=(Array.getElem?_eq_some_iff.1 hb).1;have hF:F r:=Classical.byContradiction fun hn=>by rw [h.hid r hn hlt] at hb;simp_all
 have hz:¬ Z r:=fun hz=>by
  obtain ⟨cs,e,fz,h3,_⟩:=h.shr r hF hz;simp_all
 exact ⟨hF,hz,(h.own r hF hz).trans hb⟩
theorem QGj {F Z:Nat->Prop} {w W:World} (h:Agr F Z w W) {r:Nat} (o:Obj) (hF:F r) (hz:¬ Z r):Agr F Z { w with heap:=w.heap.setIfInBounds r o } { W with heap:=W.heap.setIfInBounds r o } where
 tape:=h.tape
 drawn:=h.drawn
 os:=h.os
 output:=h.output
 size:=by show (W.heap.setIfInBounds r o).size=(w.heap.setIfInBounds r o).size;simp [h.size]
 own:=fun b hb hzb=>by
  show (W.heap.setIfInBounds r o)[b]?=(w.heap.setIfInBounds r o)[b]?;rw [Eb,Eb,h.own b hb hzb,h.size]
 shr:=fun b hb hzb=>by
  have hne:r≠b:=fun e=>hz (e▸hzb)
  show ∃ cs e fz,(w.heap.setIfInBounds r o)[b]?=_/\(W.heap.setIfInBounds r o)[b]?=_;rw [Ea hne,Ea hne];exact h.shr b hb hzb
 hid:=fun b hb hlt=>by
  have hne:r≠b:=fun e=>hb (e▸hF)
  show (w.heap.setIfInBounds r o)[b]?=_;rw [Ea hne];have hlt:b < (w.heap.setIfInBounds r o).size:=hlt;exact h.hid b hb (by grind)
 zf:=h.zf
theorem QSk {w:World} {r:Nat} {o:Obj} (h:NoView w) (ho:∀ a u,o≠.view a u):NoView { w with heap:=w.heap.setIfInBounds r o }:=fun b x u e=>by
 have e:(w.heap.setIfInBounds r o)[b]?=some (.view x u):=e;rw [Eb] at e;split at e
 ·simp_all
 ·exact h b x u e
theorem Qrg {α:Type} {P:Program} {m:Sem α} {w:World} {b:Nat} {o:Obj} {v:α} (hb:Whole w b o)
  (hm:∀ W ev,W.heap[b]?=some o->m.runT P W ev=(.ok v W,ev.push ⟨.obj b,false,false⟩)):YY P m w:=by
 intro F Z W ev ev' r w' hA hv hr;obtain ⟨hF,hz,hW⟩:=Qws hA hb;rw [hm w ev hb.at_] at hr;cases hr;refine ⟨F,W,#[⟨.obj b,false,false⟩],hm W ev hW,⟨hA,fun _ x=>x,fun _ x=>.inl x,Ee _,fun _ _ _=>rfl,rfl,rfl,rfl⟩,hv,by simp,fun e he=>?_⟩;simp at he;subst he;exact .inl ⟨⟨b,0,none⟩,.obj b,rfl,hF,fun h=>by cases h⟩
theorem Qhs {α:Type} {P:Program} {m:Sem α} {w:World} {b:Nat} {o o':Obj} {v:α} (hb:Whole w b o) (ho:∀ a u,o'≠.view a u)
  (hm:∀ W ev,W.heap[b]?=some o->m.runT P W ev=(.ok v { W with heap:=W.heap.setIfInBounds b o' },(ev.push ⟨.obj b,false,false⟩).push ⟨.obj b,true,false⟩)):YY P m w:=by
 intro F Z W ev ev' r w' hA hv hr;obtain ⟨hF,hz,hW⟩:=Qws hA hb;rw [hm w ev hb.at_] at hr;cases hr;refine ⟨F,_,#[⟨.obj b,false,false⟩,⟨.obj b,true,false⟩],hm W ev hW,⟨QGj hA _ hF hz,fun _ x=>x,fun _ x=>.inl x,by simp,fun i _ hi=>?_,rfl,rfl,rfl⟩,QSk hv ho,by rfl,fun e he=>?_⟩
 ·grind
 ·simp at he;rcases he with rfl | rfl
  ·exact .inl ⟨⟨b,0,none⟩,.obj b,rfl,hF,fun h=>by cases h⟩
  ·exact .inl ⟨⟨b,0,none⟩,.obj b,rfl,hF,fun _=>hz⟩
end Go.Gw

end
section
set_option linter.unusedVariables false
namespace Go.Gw
open Go Go.Conc

structure Rel (w w1:World):Prop where
 os:w1.os=w.os
 tape:w1.tape=w.tape
 output:w1.output=w.output
 size:w.heap.size<=w1.heap.size
 block:∀ b,b < w.heap.size->w1.heap[b]?=w.heap[b]?
 fresh:∀ b,w.heap.size<=b->b < w1.heap.size->w1.heap[b]?=some YM
theorem Rel.refl (w:World):Rel w w:=⟨rfl,rfl,rfl,Ee _,fun _ _=>rfl,fun b h1 h2=>absurd h2 (Nat.not_lt.2 h1)⟩
theorem Rel.trans {a b c:World} (h:Rel a b) (k:Rel b c):Rel a c :=
 ⟨k.os.trans h.os,k.tape.trans h.tape,k.output.trans h.output,Eh h.size k.size,fun i hi=>(k.block i (Ef hi h.size)).trans (h.block i hi),fun i h1 h2=>by
  rcases Eg i b.heap.size with h3 | h3
  ·rw [k.block i h3];exact h.fresh i h1 h3
  ·exact k.fresh i h3 h2⟩
theorem NoView.rel {w w1:World} (h:NoView w) (r:Rel w w1):NoView w1:=fun b a u e=>by
 rcases Eg b w.heap.size with h1 | h1
 ·rw [r.block b h1] at e;exact h b a u e
 ·rcases Eg b w1.heap.size with h2 | h2
  ·rw [r.fresh b h1 h2] at e;cases e
  simp_all

def JV (P:Program) (main:Bool) (Z:Nat->Prop) (g:Goroutine) (w:World) (g':Goroutine) (w':World):Prop :=
 NoView w->NoView w'/\∀ (F:Nat->Prop) (W:World),Agr F Z w W->∃ F' W' es,stepG P main g W=.go g' W' es/\AgrTo F Z W F' w' W'/\∀ e∈es,EvOk F' Z e

structure Jd (P:Program) where
 main:Bool
 Z:Nat->Prop
 Ph:Goroutine->World->(Goroutine->World->Prop)->Prop

inductive Wlk {P:Program} (J:Jd P) (Stop:Goroutine->World->Prop):Goroutine->World->Prop
 | stop {g:Goroutine} {w:World}:(∀ w1,Rel w w1->Stop g w1)->Wlk J Stop g w
 | step {g:Goroutine} {w:World} (nx:World->Goroutine×World):g.status=.running->(∀ w1,Rel w w1->JV P J.main J.Z g w1 (nx w1).1 (nx w1).2)->(∀ w1,Rel w w1->Wlk J Stop (nx w1).1 (nx w1).2)->Wlk J Stop g w
 | phase {g:Goroutine} {w:World} (S:Goroutine->World->Prop):g.status=.running->(∀ w1,Rel w w1->J.Ph g w1 S)->(∀ g' w',S g' w'->Wlk J Stop g' w')->Wlk J Stop g w

section
variable {P:Program} {J:Jd P} {Stop:Goroutine->World->Prop} {main:Bool} {Z:Nat->Prop}
theorem Wlk.rely {g:Goroutine} {w w1:World} (h:Wlk J Stop g w) (r:Rel w w1):Wlk J Stop g w1:=by
 cases h with
 | stop h=>exact .stop fun w2 r2=>h w2 (r.trans r2)
 | step nx hs h1 h2=>exact .step nx hs (fun w2 r2=>h1 w2 (r.trans r2)) (fun w2 r2=>h2 w2 (r.trans r2))
 | phase S hs h1 h2=>exact .phase S hs (fun w2 r2=>h1 w2 (r.trans r2)) h2
theorem Wlk.by {g:Goroutine} {w:World} (hs:g.status=.running) (h:∀ w1,Rel w w1->∃ g' w',JV P J.main J.Z g w1 g' w'/\Wlk J Stop g' w'):Wlk J Stop g w:=by
 have key:∀ w1:World,∃ x:Goroutine×World,Rel w w1->JV P J.main J.Z g w1 x.1 x.2/\Wlk J Stop x.1 x.2:=fun w1=>by
  rcases Classical.em (Rel w w1) with hr | hr
  ·simp_all
  simp_all
 exact .step (fun w1=>Classical.choose (key w1)) hs (fun w1 hr=>(Classical.choose_spec (key w1) hr).1) (fun w1 hr=>(Classical.choose_spec (key w1) hr).2)

theorem Agr.self (w:World):Agr (fun _=>True) (fun _=>False) w w:=⟨rfl,rfl,rfl,rfl,rfl,fun _ _ _=>rfl,fun _ _ h=>h.elim,fun _ h=>absurd trivial h,fun _ h=>h.elim⟩
theorem QYx {g g':Goroutine} {w:World} (h:∀ W,stepG P main g W=.go g' W #[]):JV P main Z g w g' w:=fun hv =>
 ⟨hv,fun F W hA=>⟨F,W,#[],h W,⟨hA,fun _ x=>x,fun _ x=>.inl x,Ee _,fun _ _ _=>rfl,rfl,rfl,rfl⟩,by simp⟩⟩
theorem Wlk.ctl {g g':Goroutine} {w:World} (hs:g.status=.running) (h:∀ W,stepG P J.main g W=.go g' W #[]) (k:Wlk J Stop g' w):Wlk J Stop g w :=
 .by hs fun w1 r=>⟨g',w1,QYx h,k.rely r⟩
theorem QEx {b:Frame} {a:Act} {k:List Item} {cs:List Frame} {w:World} {id:Nat} {ops:Array Oper} :
    JV P main Z (G (b.at a (.code (.region id ops true)::k)) cs) w (G (b.at a (.inRegion ops (Region.schedule (P.follows .mixedOrders) ops (w.tape w.drawn (.order b.fn id)))::k)) cs) { w with drawn:=w.drawn+1 }:=fun hv =>
  ⟨hv,fun F W hA=>⟨F,{ W with drawn:=W.drawn+1 },#[],by rw [stepG_region_draw,hA.tape,hA.drawn],
    ⟨⟨hA.tape,by show W.drawn+1=w.drawn+1;rw [hA.drawn],hA.os,hA.output,hA.size,hA.own,hA.shr,hA.hid,hA.zf⟩,fun _ x=>x,fun _ x=>.inl x,Ee _,fun _ _ _=>rfl,rfl,rfl,rfl⟩,by simp⟩⟩
def Fr (P:Program) {α:Type} (m:Sem α) (w:World):Prop:=∀ w1,Rel w w1->YY P m w1
theorem Tame.fr {α:Type} {m:Sem α} {w:World} (h:Tame P m):Fr P m w:=fun _ _=>h.fr0
theorem Fr.rely {α:Type} {m:Sem α} {w w1:World} (h:Fr P m w) (r:Rel w w1):Fr P m w1:=fun w2 r2=>h w2 (r.trans r2)
theorem Qpc {b:Frame} {a:Act} {k:List Item} {cs:List Frame} {w w':World} {ops:Array Oper} {i:Nat} {rest:List Nat} {o:Oper} {r:Next} {g':Goroutine} (ht:Fr P (execOp a.eval o) w) (hr:(execOp a.eval o).run P w=.ok r w')
  (hg:∀ W W',(execOp a.eval o).run P W=.ok r W'->stepG P main (G (b.at a (.inRegion ops (i::rest)::k)) cs) W=.go g' W' (listed P b.fn a o W)) :
  JV P main Z (G (b.at a (.inRegion ops (i::rest)::k)) cs) w g' w':=by
 intro hv;have hT:∀ w,(execOp a.eval o).runT P w #[]=((execOp a.eval o).run P w,(execOp a.eval o).events P w #[]):=fun w=>Sem.runT_eq P _ w #[]
 have h0:=hT w;rw [hr] at h0;obtain ⟨_,_,_,_,_,hv',_,_⟩:=ht w (Rel.refl w) (Agr.self w) hv h0;refine ⟨hv',fun F W hA=>?_⟩;obtain ⟨F',W',us,h1,h2,_,h4,h5⟩:=ht w (Rel.refl w) hA hv h0
 grind [mem_listed,Prod.mk.inj]
theorem QEy {b:Frame} {a:Act} {w:World} {fn:Func} {todo:List Item} {c:Frame} {cs:List Frame} {v:Value} (hn:b.kind=.normal) (hd:a.defers=[]) (hf:P.funcs[b.fn]?=some fn) (ht:Tame P (results fn a.tmps))
  (hr:(results fn a.tmps).run P w=.ok v w):JV P main Z (G { b.at a todo with mode:=.returning } (c::cs)) w (G (c.finish v) cs) w:=by
 intro hv;refine ⟨hv,fun F W hA=>?_⟩;have hT:∀ w,(results fn a.tmps).runT P w #[]=((results fn a.tmps).run P w,(results fn a.tmps).events P w #[]):=fun w=>Sem.runT_eq P _ w #[]
 have h0:=hT w;rw [hr] at h0;obtain ⟨F',W',us,h1,h2,_,h4,h5⟩:=frame ht hA hv h0;have h6:=hT W;rw [h1] at h6;have h7:=(Prod.mk.inj h6).1;have h8:=(Prod.mk.inj h6).2;refine ⟨F',W',seen P b.fn ((results fn a.tmps).events P W #[]),?_,h2,fun e he=>?_⟩
 ·simp [G,stepG,unwind,doReturn,Frame.at,hn,hd,hf,<-h7,GStep.after]
 grind [mem_seen]
end
end Go.Gw

end
section
set_option linter.unusedVariables false
namespace Go.Gw
open Go Go.Conc

section
variable {P:Program}
def AfterJ (J:Jd P) (Stop:Goroutine->World->Prop) (b:Frame) (k:List Item) (cs:List Frame):Exit->Act->World->Prop
 | .normal,a,w=>Wlk J Stop (G (b.at a k) cs) w
 | .exit id,a,w=>∃ k',exitTo id k=some k'/\Wlk J Stop (G (b.at a k') cs) w
 | .ret,a,w=>∀ todo,Wlk J Stop (G { b.at a todo with mode:=.returning } cs) w
 | _,_,_=>False
def ZN (J:Jd P) (c:Code) (Q:Exit->Act->World->Prop) (a:Act) (w:World):Prop :=
 ∀ (b:Frame) (k:List Item) (cs:List Frame) (Stop:Goroutine->World->Prop),b.kind≠.early ->
  (∀ e a' w',Q e a' w'->AfterJ J Stop b k cs e a' w')->Wlk J Stop (G (b.at a (.code c::k)) cs) w
def Qef (J:Jd P) (ops:Array Oper) (todo:List Nat) (Q:Exit->Act->World->Prop) (a:Act) (w:World):Prop :=
 ∀ (b:Frame) (k:List Item) (cs:List Frame) (Stop:Goroutine->World->Prop),b.kind≠.early ->
  (∀ e a' w',Q e a' w'->AfterJ J Stop b k cs e a' w')->Wlk J Stop (G (b.at a (.inRegion ops todo::k)) cs) w
def CallsJ (J:Jd P) (f:FuncId) (args:Array Value) (w:World) (Φ:Value->World->Prop):Prop :=
 ∀ (c:Frame) (cs:List Frame) (Stop:Goroutine->World->Prop),(∀ v w',Φ v w'->Wlk J Stop (G (c.finish v) cs) w')->Wlk J Stop (G (Frame.enter P f args .normal) (c::cs)) w
def upJ (J:Jd P) (o:Oper) (a:Act) (K:Act->World->Prop):Result Next->Prop
 | .ok (.value v) w'=>K (a.put o.dst v) w'
 | .ok .skip w'=>K (a.put o.dst undef) w'
 | .ok (.enter f args) w'=>CallsJ J f args w' (fun v w''=>K (a.put o.dst v) w'')
 | _=>False
def Zz (J:Jd P) (ops:Array Oper) (i:Nat) (K:Act->World->Prop) (a:Act) (w:World):Prop :=
 match ops[i]? with
 | none=>False
 | some o=>if Region.wanted o (yielded ops a.tmps) then Fr P (execOp a.eval o) w/\((∃ v,(∀ w1,Rel w w1->(execOp a.eval o).run P w1=.ok (.value v) w1)/\K (a.put o.dst v) w)\/∀ w1,Rel w w1->upJ J o a K ((execOp a.eval o).run P w1)) else K (a.put o.dst undef) w

variable {J:Jd P} {Q:Exit->Act->World->Prop} {a:Act} {w:World}
theorem AfterJ.push {Stop:Goroutine->World->Prop} {b:Frame} {x:Item} {k:List Item} {cs:List Frame} {e:Exit} (hx:x.plain=true) (he:e≠.normal) (h:AfterJ J Stop b k cs e a w):AfterJ J Stop b (x::k) cs e a w:=by
 cases e with
 | normal=>trivial
 | exit id=>obtain ⟨k',hk,hg⟩:=h;exact ⟨k',by cases x<;>simp_all [exitTo,Item.plain],hg⟩
 | ret=>exact h
 | goto l=>exact h
 | panic ch=>exact h
 | outgrown=>exact h
theorem CallsJ.mono {f:FuncId} {args:Array Value} {Φ Ψ:Value->World->Prop} (h:CallsJ J f args w Φ) (hm:∀ v w',Φ v w'->Ψ v w'):CallsJ J f args w Ψ:=fun c cs Stop hk=>h c cs Stop fun v w' hv=>hk v w' (hm v w' hv)
theorem CallsJ.rely {f:FuncId} {args:Array Value} {Φ:Value->World->Prop} {w1:World} (h:CallsJ J f args w Φ) (r:Rel w w1):CallsJ J f args w1 Φ:=fun c cs Stop hk=>(h c cs Stop hk).rely r
theorem Qdl {c:Code} {Q':Exit->Act->World->Prop} (h:ZN J c Q a w) (hq:∀ e a w,Q e a w->Q' e a w):ZN J c Q' a w :=
 fun b k cs Stop hb hc=>h b k cs Stop hb fun e a' w' q=>hc e a' w' (hq e a' w' q)
theorem QZl (h:Q .normal a w):ZN J .skip Q a w:=fun b k cs Stop _ hc=>.ctl rfl (fun _=>stepG_skip) (hc _ _ _ h)
theorem QZj (h:Q .ret a w):ZN J .ret Q a w:=fun b k cs Stop _ hc=>.ctl rfl (fun _=>stepG_ret') (hc _ _ _ h _)
theorem QZg {id:Nat} (h:Q (.exit id) a w):ZN J (.exit id) Q a w:=fun b k cs Stop _ hc=>by
 obtain ⟨k',hk',hg⟩:=hc _ _ _ h;exact .ctl rfl (fun _=>stepG_exit hk') hg
theorem QZk {x y:Code} (h:ZN J x (Exit.then (fun a' w'=>ZN J y Q a' w') Q) a w):ZN J (.seq x y) Q a w:=by
 intro b k cs Stop hb hc;refine .ctl rfl (fun _=>stepG_seq) (h b (.code y::k) cs Stop hb fun e a' w' q=>?_);cases e with
 | normal=>exact q b k cs Stop hb hc
 | exit id=>exact (hc _ _ _ q).push rfl (by simp)
 | ret=>exact (hc _ _ _ q).push (x:=.code y) rfl (by simp)
 | goto l=>exact hc _ _ _ q
 | panic ch=>exact hc _ _ _ q
 | outgrown=>exact hc _ _ _ q
theorem QZf {c:Operand} {x y:Code} {t:Bool} (hc:a.eval c=.bool t) (h1:t=true->ZN J x Q a w) (h2:t=false->ZN J y Q a w):ZN J (.cond c x y) Q a w:=by
 intro b k cs Stop hb hq;refine .ctl rfl (fun _=>stepG_cond hc) ?_;cases t
 ·exact h2 rfl b k cs Stop hb hq
 ·exact h1 rfl b k cs Stop hb hq
theorem QZe {id:Nat} {c:Code} (h:ZN J c (Exit.inBlock id Q) a w):ZN J (.block id c) Q a w:=by
 intro b k cs Stop hb hc;refine .ctl rfl (fun _=>stepG_block) (h b (.inBlock id::k) cs Stop hb fun e a' w' q=>?_);cases e with
 | normal=>exact .ctl rfl (fun _=>stepG_inBlock) (hc _ _ _ q)
 | exit id' =>
  by_cases hid:id'=id
  ·simp only [Exit.inBlock,hid,if_true] at q;exact ⟨k,by simp [exitTo,hid],hc _ _ _ q⟩
  ·simp only [Exit.inBlock,hid,if_false] at q;obtain ⟨k',hk',hg⟩:=hc _ _ _ q;have:(id == id')=false:=by grind
   exact ⟨k',by grind [exitTo],hg⟩
 | ret=>exact fun todo=>hc _ _ _ q todo
 | goto l=>exact hc _ _ _ q
 | panic ch=>exact hc _ _ _ q
 | outgrown=>exact hc _ _ _ q
theorem QZh {c:Code} (I:Act->World->Prop) (μ:Act->World->Nat) (h0:I a w)
  (round:∀ a w,I a w->ZN J c (Exit.then (fun a' w'=>I a' w'/\μ a' w' < μ a w) Q) a w):ZN J (.loop c) Q a w:=by
 intro b k cs Stop hb hc;have key:∀ N a w,μ a w < N->I a w->Wlk J Stop (G (b.at a (.code c::.inLoop c::k)) cs) w:=by
  intro N
  induction N with
  | zero=>omega
  | succ N ih =>
   intro a w hμ hI;refine round a w hI b (.inLoop c::k) cs Stop hb fun e a' w' q=>?_;cases e with
   | normal=>exact .ctl rfl (fun _=>stepG_inLoop) (ih a' w' (by have:=q.2;omega) q.1)
   | exit id=>exact (hc _ _ _ q).push rfl (by simp)
   | ret=>exact (hc _ _ _ q).push (x:=.inLoop c) rfl (by simp)
   | goto l=>exact hc _ _ _ q
   | panic ch=>exact hc _ _ _ q
   | outgrown=>exact hc _ _ _ q
 exact .ctl rfl (fun _=>stepG_loop) (key _ a w (Nat.lt_succ_self _) h0)

/-! ### Regions -/
theorem QYm {o:Oper} {K K':Act->World->Prop} (h:∀ a w,K a w->K' a w) {r:Result Next} (hh:upJ J o a K r):upJ J o a K' r:=by
 cases r with
 | ok n w'=>cases n<;>first | exact h _ _ hh | exact CallsJ.mono hh (fun _ _=>h _ _) | exact hh
 | halt x w'=>exact hh
theorem Qni {ops:Array Oper} {i:Nat} {K K':Act->World->Prop} (h:∀ a w,K a w->K' a w) (hh:Zz J ops i K a w):Zz J ops i K' a w:=by
 unfold Zz at *
 split
 ·simp_all
 ·rename_i o ho;simp only [ho] at hh;split
  ·rename_i hw;simp only [hw,if_true] at hh;grind [QYm]
  simp_all
theorem Qtq {ops:Array Oper} (h:Q .normal a w):Qef J ops [] Q a w:=fun b k cs Stop _ hc=>.ctl rfl (fun _=>stepG_region_end) (hc _ _ _ h)
theorem Qtp {ops:Array Oper} {i:Nat} {rest:List Nat} {K:Act->World->Prop} (h:Zz J ops i K a w) {b:Frame} {k:List Item} {cs:List Frame} {Stop:Goroutine->World->Prop} (hb:b.kind≠.early)
  (hK:∀ a' w',K a' w'->Wlk J Stop (G (b.at a' (.inRegion ops rest::k)) cs) w'):Wlk J Stop (G (b.at a (.inRegion ops (i::rest)::k)) cs) w:=by
 unfold Zz at h;have hk:=hb;split at h
 ·exact h.elim
 ·rename_i o ho;have hfin:∀ v,(b.at a (.inRegion ops (i::rest)::k)).finish v=b.at (a.put o.dst v) (.inRegion ops rest::k):=fun v=>by rw [Frame.finish_at,ho];rfl
  split at h
  ·rename_i hw;obtain ⟨htm,h⟩:=h;refine .by rfl fun w1 r=>?_
   rcases h with ⟨v,h1,h2⟩ | h
   ·exact ⟨_,w1,Qpc (htm.rely r) (h1 w1 r) (fun W W' hW=>stepG_value ho hw hk hW),(hK _ _ h2).rely r⟩
   have h1:=h w1 r;generalize hr:(execOp a.eval o).run P w1=x at h1
   match x,h1,hr with
   | .ok (.value v) w',h1,hr=>exact ⟨_,w',Qpc (htm.rely r) hr (fun W W' hW=>stepG_value ho hw hk hW),hK _ _ h1⟩
   | .ok .skip w',h1,hr=>exact ⟨_,w',Qpc (htm.rely r) hr (fun W W' hW=>stepG_none ho hw hk hW),hK _ _ h1⟩
   | .ok (.enter f args) w',h1,hr =>
    refine ⟨_,w',Qpc (htm.rely r) hr (fun W W' hW=>stepG_enter ho hw hk hW),h1 _ _ _ fun v w'' hv=>?_⟩;simp_all
  ·rename_i hw;exact .ctl rfl (fun _=>stepG_unwanted ho (by grind)) (hK _ _ h)
theorem QBv {ops:Array Oper} {i:Nat} {rest:List Nat} (h:Zz J ops i (fun a' w'=>Qef J ops rest Q a' w') a w):Qef J ops (i::rest) Q a w :=
 fun b k cs Stop hb hc=>Qtp h hb fun a' w' h'=>h' b k cs Stop hb hc
theorem QZi {id:Nat} {ops:Array Oper} (h:Qef J ops (List.range ops.size) Q a w):ZN J (.region id ops false) Q a w :=
 fun b k cs Stop hb hc=>.ctl rfl (fun _=>stepG_region) (h b k cs Stop hb hc)
def Qcu (J:Jd P) (ops:Array Oper) (Q:Exit->Act->World->Prop):Nat->Array Bool->Act->World->Prop
 | 0,listed,a,w=>Region.ready .any ops listed=[]/\Q .normal a w
 | fuel+1,listed,a,w=>(Region.ready .any ops listed=[]->Q .normal a w)/\∀ i∈Region.ready .any ops listed,Zz J ops i (fun a' w'=>Qcu J ops Q fuel (listed.setIfInBounds i true) a' w') a w
theorem QGm {ops:Array Oper}:∀ (fuel t:Nat) (listed:Array Bool) (a:Act) (w:World),Qcu J ops Q fuel listed a w->Qef J ops (Region.linearise.go .any ops fuel t listed []) Q a w:=by
 intro fuel
 induction fuel with
 | zero=>intro t listed a w h;simpa [Region.linearise.go] using Qtq h.2
 | succ fuel ih =>
  intro t listed a w h;obtain ⟨h0,h1⟩:=h;simp only [Region.linearise.go];change Qef J ops (match (Region.ready .any ops listed)[t % (Region.ready .any ops listed).length]? with
   | some i=>Region.linearise.go .any ops fuel (t / (Region.ready .any ops listed).length) (listed.setIfInBounds i true) [i]
   | none=>[].reverse) Q a w
  cases hi:(Region.ready .any ops listed)[t % (Region.ready .any ops listed).length]? with
  | none =>
   have hnil:Region.ready .any ops listed=[]:=by
    cases hr:Region.ready .any ops listed with
    | nil=>rfl
    | cons x xs =>
     grind [Nat.mod_lt]
   grind [Qtq]
  | some i =>
   grind [QBv,Qni,List.mem_of_getElem?,linearise_go_acc,List.reverse_singleton,List.singleton_append]
theorem QFb {id:Nat} {ops:Array Oper} (hm:P.follows .mixedOrders=true) (h:Qcu J ops Q ops.size (Array.replicate ops.size false) a { w with drawn:=w.drawn+1 }):ZN J (.region id ops true) Q a w :=
 fun b k cs Stop hb hc=>.by rfl fun w1 r=>⟨_,_,QEx,by
  simp only [Region.schedule,hm,Bool.true_or,if_true];exact (QGm ops.size _ _ a _ h b k cs Stop hb hc).rely ⟨r.os,r.tape,r.output,r.size,r.block,r.fresh⟩⟩

/-! ### Functions -/
def QGy (P:Program) (fn:Func) (Φ:Value->World->Prop):Exit->Act->World->Prop
 | .normal,a,w | .ret,a,w=>a.defers=[]/\Tame P (results fn a.tmps)/\∃ v,(∀ w1,Rel w w1->(results fn a.tmps).run P w1=.ok v w1)/\Φ v w
 | _,_,_=>False
theorem Qqm {f:FuncId} {fn:Func} {c:Code} {args:Array Value} {Φ:Value->World->Prop} (hf:P.funcs[f]?=some fn) (hb:fn.body=some c)
    (h:ZN J c (QGy P fn Φ) { tmps:=args++Array.replicate (fn.ntmps - args.size) undef,defers:=[] } w):CallsJ J f args w Φ:=by
  intro c0 cs Stop hk;rw [enter_at _ hf hb]
  have hleave : ∀ (a' : Act) (w' : World) (todo : List Item), (a'.defers = [] /\ Tame P (results fn a'.tmps) /\ ∃ v, (∀ w1, Rel w' w1 -> (results fn a'.tmps).run P w1 = .ok v w1) /\ Φ v w') ->
      Wlk J Stop (G { (base f).at a' todo with mode:=.returning } (c0::cs)) w':=by
    rintro a' w' todo ⟨hd,htr,v,hr,hp⟩;exact .by rfl fun w1 r=>⟨_,w1,QEy (b:=base f) rfl hd hf htr (hr w1 r),(hk v w' hp).rely r⟩
  refine h (base f) [] _ Stop (by simp [base]) fun e a' w' q=>?_;cases e with
  | normal=>exact .ctl rfl (fun _=>stepG_end) (hleave a' w' [] q)
  | ret=>exact fun todo=>hleave a' w' todo q
  | exit id=>exact q.elim
  | goto l=>exact q.elim
  | panic ch=>exact q.elim
  | outgrown=>exact q.elim
end
end Go.Gw

end
section
set_option linter.unusedVariables false
namespace Go.Gw
open Go Go.Conc
section
variable {P:Program} {α β:Type}
theorem Tame.bnd {m:Sem α} {f:α->Sem β} (h:Tame P m) (hf:∀ a,Tame P (f a)):Tame P (m >>= f):=Tame.bind h hf
theorem Tame.still {m:Sem α} (r:α) (h:∀ w es,m.runT P w es=(.ok r w,es)):Tame P m:=.same m (.pure r) (fun w es=>by rw [h];rfl) (.pure r)
theorem YK (s:String):Tame P (stuck s:Sem α):=.halt _
theorem Qax (s:Unsupported):Tame P (unsupported s:Sem α):=.halt _
theorem Qoy:Tame P program:=.program _ (.pure _)
theorem Qvn (a:Addr):Tame P (load a):=.load _ _ fun v=>.pure v
theorem QXv (a:Addr) (v:Value):Tame P (store a v):=.store _ _ _ (.pure ())
theorem Qel (q:Question):Tame P (choose q):=.choose _ _ fun n=>.pure n
theorem Qka (o:Obj) (h:Obj.still o=true):Tame P (newObj o):=.new _ _ h fun n=>.pure n
theorem Qjz (n:Nat):Tame P (askRoom n):=by
 unfold askRoom;split
 ·exact .room _ (.pure ())
 ·exact .pure ()
theorem Qbn (t:TypeId):Tame P (typeInfo t):=.bnd Qoy fun p=>by
 split
 ·exact .pure _
 ·exact YK _
theorem Qaf (t:TypeId):Tame P (underlying t):=.bnd Qoy fun p=>by
 split
 ·exact .pure _
 ·exact YK _
theorem Qep (t:TypeId):Tame P (zeroValue t):=.bnd (Qbn t) fun p=>by
 split
 ·exact .pure _
 ·exact Qax _
theorem Jy (t:TypeId):Tame P (sizeOf t):=.bnd (Qbn t) fun p=>.pure _
theorem QEj (t:TypeId):Tame P (isAgg t):=.bnd (Qaf t) fun p=>by
 split<;>exact .pure _
theorem QEm (a:Addr):∀ (n i:Nat) (acc:Array Value),Tame P (loadCellsFrom a i n acc)
 | 0,_,_=>.pure _
 | n+1,i,acc=>.bnd (Qvn _) fun v=>QEm a n (i+1) (acc.push v)
theorem QEl (a:Addr) (n:Nat):Tame P (loadCells a n):=QEm a n 0 #[]
theorem Qeo (a:Addr):∀ (vs:List Value) (i:Nat),Tame P (storeCells a vs i)
 | [],_=>by unfold storeCells;exact .pure _
 | v::vs,i=>by unfold storeCells;exact .bnd (QXv _ _) fun _=>Qeo a vs (i+1)
theorem QEn (t:TypeId) (a:Addr):Tame P (loadVar t a):=.bnd (QEj t) fun b=>by
 split
 ·exact .bnd (Jy t) fun n=>.bnd (QEl a n) fun _=>.pure _
 ·exact Qvn a
theorem QXw (t:TypeId) (a:Addr) (v:Value):Tame P (storeVar t a v):=.bnd (Jy t) fun n=>by
 split
 ·exact .bnd (YK _) fun _=>Qeo _ _ _
 ·exact Qeo _ _ _
theorem Qem (t:TypeId) (c:Array Value):Tame P (newRow t c):=.bnd (Qka _ rfl) fun n=>.pure _
theorem Qvp (t:TypeId) (v:Value):Tame P (newVar t v):=Qem t _
theorem Qoz (v:Value):Tame P (Instr.sureAddr v):=by
 unfold Instr.sureAddr;split
 ·exact .pure _
 ·exact YK _
theorem QEk (t:TypeId) (v:Value):Tame P (Instr.loadAt t v):=.bnd (Qoz v) fun a=>QEn t a
theorem Qvq (t:TypeId) (v x:Value):Tame P (Instr.storeAt t v x):=.bnd (Qoz v) fun a=>QXw t a x
theorem QXg (t:TypeId):Tame P (Instr.alloc t true (.tuple #[])):=.bnd (Qep t) fun z=>.bnd (Qvp t z) fun _=>.pure _
theorem QXk (t:TypeId) (v:Value):Tame P (Instr.box t v):=.bnd (Qvp t v) fun _=>.pure _
end
end Go.Gw

end
