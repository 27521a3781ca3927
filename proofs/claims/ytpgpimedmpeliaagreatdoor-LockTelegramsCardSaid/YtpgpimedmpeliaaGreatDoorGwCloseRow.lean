/- From one good run at every start to the row of a law whose call can start goroutines and whose row lists variables with their content. No condition. -/
import Derived.Conc.LeavingOf
import Derived.Deep.DeepHandedRow
import Derived.SevenTiedAt
set_option linter.unusedVariables false
set_option linter.unusedSimpArgs false
set_option linter.unusedSectionVars false
namespace Go
section
variable {H:Type} {enc:TypeId×Value→H}
open Go.Conc
theorem QFw {a : Assume} {C : Checked} {os : Os} {f : FuncId} {fn : Func} {s : ChangeSpec} {conds : List PathCond} {apart fresh handsOn again : Bool} {laid : List (String × DataW Unit)}
    (own:ownKnob C.prog.godebug=none) (started:os.Started) (hfn:C.prog.funcs[f]?=some fn)
    (witness:∃ (w:World) (tape:Tape) (i:Input),w.os=os∧(w.forCall tape i).Shaped C.prog∧i.vars=[]∧Input.okWide C.prog (w.forCall tape i) .any w.heap.size f i ∧
      (OpenSpec.ofChange s).preRow enc C.prog fn conds apart laid (w.forCall tape i).memory i.args∧a.holds C.prog (lone (Frame.enter C.prog f i.args .normal) [] (w.forCall tape i)))
    (runs:∀ (W:World) (base:Nat) (args:Array Value) (ds gs:List (DataW H)) (before:List MemPlace),
      (∀ (j:Nat) t v,fn.params[j]?=some t→args[j]?=some v→Value.okWide C.prog W .any base t v) →
      DataW.Whole enc C.prog fn.params.toList s.vars apart W args.toList ds gs before →
      (DataW.weightsEach C.prog (fn.params.toList++s.plain.varTypes C.prog) (ds++gs)).all (·≤reachBytes)=true →
      laidMetH C.prog laid W →
      a.holds C.prog (lone (Frame.enter C.prog f args .normal) [] W) →
      ∃ M last o w' t',runNT C.prog (M+1) (solo (G (Frame.enter C.prog f args .normal) []) W) #[]=(.ended o w',t')∧runN C.prog M (solo (G (Frame.enter C.prog f args .normal) []) W)=.next last ∧
        step C.prog last=.ended o w'∧Conc.Good C.prog (fun v W'=>s.post enc C.prog fn apart fresh handsOn again W args v W') last o w' t') :
    ReturnsInLeavingWide a C os f .any ((OpenSpec.ofChange s).preRow enc C.prog fn conds apart laid) (s.post enc C.prog fn apart fresh handsOn again):=by
  refine returnsInLeavingWide_of_good own started witness ?_
  intro w tape i _ _ _ hok hpre hholds
  obtain ⟨_,_,_,fn',hfn',_,_,_,_,hval⟩:=hok
  have e:fn'=fn:=Option.some.inj (hfn'.symm.trans hfn)
  subst e
  obtain ⟨⟨hp,hl⟩,hz⟩:=hpre
  obtain ⟨ds,gs,before,hw,hc,hk⟩:=OpenSpec.pre_parts hp
  have hw':=DataW.Whole.of_heap (w':=w.forCall tape i) (by rfl) hw
  obtain ⟨M,last,o,w',t',h1,h2,h3,h4⟩:=runs (w.forCall tape i) w.heap.size i.args ds gs before hval hw' (hz.weights hw) (hl.of_heap (by rfl)) hholds
  exact ⟨M,last,o,w',t',h1,h2,h3,h4.mono fun v hp=>ChangeSpec.post_blind hp⟩
end
theorem Claim7.holds_tied_goes_at (Lk : Looks) {p : Pinned} {s : OpenSpec} {c : OpenClaim} (kinds : List LaidKind) (tests : Bool) (har : Bool × String) (lk g : Bool)
    (hc:c.holds p s) (hw:c.wfByText s=true) (htie:c.laidByTextAt Lk p kinds tests)
    (hst:c.start=.entering) (hnb:c.noBlocks=false∧c.again=false) (hm:p.checked.prog.mainIs=some (har.1,har.2.toList)) (hn:(!har.1&&har.2.isEmpty&&!lk)=false)
    (hl:∀ f fn,p.checked.prog.funcNamed c.func=some f→p.checked.prog.funcs[f]?=some fn→lk=p.checked.prog.looks []∧∀ (j:Nat) t,fn.params[j]?=some t→p.checked.prog.wantsStandIn t=false)
    (hg:g=c.goesBy p.checked.prog) :
    Claim7.holds p (.plain s) { stood:={ row:=c,standIns:=[],harness:=har,looks:=lk },kinds:=[],alts:=[],goes:=g,laidByText:=true,laidKinds:=kinds,laidTests:=tests,laidLooks:=Lk }:=by
  have h6:∀ r:OpenClaim,Claim7.isSixth { stood:={ row:=r,standIns:=[],harness:=har,looks:=lk },kinds:=[] }=false:=fun r=>by simpa [Claim7.isSixth] using hn
  refine ⟨?_,(fun D hD=>by cases hD),htie,(fun h=>by cases h),hg⟩
  exact Claim7.tied_new_at Lk kinds tests (Claim7.new_of_sixth hc har lk hst hnb hm (h6 c) hl) hw
end Go
