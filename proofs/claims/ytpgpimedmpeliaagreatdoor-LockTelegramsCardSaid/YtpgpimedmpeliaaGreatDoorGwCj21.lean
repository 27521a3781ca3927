/- Goroutines: a worker's birth, its region whose last operation is a send, its way out; goroutine 0's go statement and its receive. No condition. -/
import Derived.Test.YtpgpimedmpeliaaGreatDoorGwCj20
import Derived.Test.YtpgpimedmpeliaaGreatDoorGwCore
import Derived.Test.YtpgpimedmpeliaaGreatDoorGwCj5
set_option linter.unusedVariables false
set_option linter.unusedSimpArgs false
set_option linter.unusedSectionVars false
set_option linter.unusedVariables false
set_option linter.unusedSectionVars false
namespace Go.Gw
open Go Go.Conc

section
variable {P:Program} [JD P] {n:Nat} {ρ:Env} {w:World}

theorem TS.toBK {ops : List Oper} {S : World → Prop} {m : Nat} {tail : List Nat} {Kt : Env → World → Prop} (hsel : Region.noSelect ops.toArray = true) (hw : Qeg ops.toArray m = true) :
    ∀ (body:List (Nat×Bool)) (listed:Array Bool) (ρ:Env) (w:World),listed.size=ops.toArray.size→Closed ops.toArray listed→Zl listed m=body.length→Qco ops.toArray m tail body listed=true→S w →
    TS P n ops S Kt body ρ w →
    J6 P ops.toArray S (fun listed a w=>∃ ρ,a=act n ρ∧Qby ops.toArray tail listed=true∧Kt ρ w) body.length listed (act n ρ) w
  | [],_,ρ,_,_,_,_,hok,_,h=>⟨ρ,rfl,hok,h⟩
  | (i,false)::rest,listed,ρ,w,hls,hcl,hc,hok,hS,h=>by
    simp only [Qco,Bool.and_eq_true,Bool.false_eq_true,if_false] at hok
    obtain ⟨⟨him,hf,hr⟩,hrest⟩:=hok
    obtain ⟨o,v,hi',hq,ht⟩:=h
    have hi:ops.toArray[i]?=some o:=by simpa using hi'
    have him:i < m:=by simpa [Nat.blt_eq] using him
    have hr:i∈Region.ready .any ops.toArray listed:=by simpa using hr
    have hu:=(mem_ready.1 hr).1
    have hc':=Y6 (listed:=listed) him (by simpa using hu)
    refine Qus hi him hw (Region.noSelect_spec hsel) rest.length listed _ w hls hcl (by rw [hc];rfl) (Region.free_spec hi hf) hr hq.yields hS ?_
    rw [YV]
    exact TS.toBK hsel hw rest _ _ w (by simpa using hls) (hcl.set hr) (by simp only [List.length_cons] at hc;omega) hrest hS ht
  | (i,true)::rest,listed,ρ,w,hls,hcl,hc,hok,hS,h=>by
    simp only [Qco,Bool.and_eq_true,if_true,beq_iff_eq] at hok
    obtain ⟨⟨him,hr⟩,hrest⟩:=hok
    obtain ⟨o,hi',hs⟩:=h
    have hi:ops.toArray[i]?=some o:=by simpa using hi'
    have him:i < m:=by simpa [Nat.blt_eq] using him
    have hr':i∈Region.ready .any ops.toArray listed:=by rw [hr];simp
    have hu:=(mem_ready.1 hr').1
    have hc':=Y6 (listed:=listed) him (by simpa using hu)
    refine ⟨by rw [hr];simp,fun j hj=>?_⟩
    have hj:j=i:=by rw [hr] at hj;simpa using hj
    subst hj
    exact hs.toOp hi fun ρ w h'=>⟨h'.1,TS.toBK hsel hw rest _ _ w (by simpa using hls) (hcl.set hr') (by simp only [List.length_cons] at hc;omega) hrest h'.1 h'.2⟩

theorem Qut {ops : Array Oper} {S : World → Prop} {Kt : Array Bool → Act → World → Prop} {Kf : Act → World → Prop} {j : Nat} (hK : ∀ listed a w, Kt listed a w → Qby ops [j] listed = true ∧ Kf a w)
    {b:Frame} {k:List Item} {cs:List Frame} {Stop:Goroutine→World→Prop} (hb:b.kind≠.early) (hF:∀ a' w',Kf a' w'→Wlk (JD.j (P:=P)) Stop (G (b.at a' (.inRegion ops [j]::k)) cs) w') :
    ∀ (fuel t:Nat) (listed:Array Bool) (a:Act) (w:World),J6 P ops S Kt fuel listed a w→Wlk (JD.j (P:=P)) Stop (G (b.at a (.inRegion ops (Region.linearise.go .any ops (fuel+1) t listed [])::k)) cs) w:=by
  intro fuel
  induction fuel with
  | zero =>
    intro t listed a w h
    obtain ⟨h1,h2⟩:=hK _ _ _ h
    simp only [Qby,Bool.and_eq_true,beq_iff_eq] at h1
    have e:Region.linearise.go .any ops (0+1) t listed []=[j]:=by
      rw [show Region.linearise.go .any ops (0+1) t listed []=(match (Region.ready .any ops listed)[t % (Region.ready .any ops listed).length]? with
        | some i=>Region.linearise.go .any ops 0 (t / (Region.ready .any ops listed).length) (listed.setIfInBounds i true) [i]
        | none=>[].reverse) from rfl,h1.1]
      have:t % [j].length=0:=by simp [Nat.mod_one]
      rw [this]
      rfl
    rw [e]
    exact hF a w h2
  | succ fuel ih =>
    intro t listed a w h
    obtain ⟨h0,h1⟩:=h
    rw [show Region.linearise.go .any ops (fuel+1+1) t listed []=(match (Region.ready .any ops listed)[t % (Region.ready .any ops listed).length]? with
      | some i=>Region.linearise.go .any ops (fuel+1) (t / (Region.ready .any ops listed).length) (listed.setIfInBounds i true) [i]
      | none=>[].reverse) from rfl]
    cases hi:(Region.ready .any ops listed)[t % (Region.ready .any ops listed).length]? with
    | none =>
      exfalso
      cases hr:Region.ready .any ops listed with
      | nil=>exact h0 hr
      | cons x xs =>
        rw [hr] at hi
        have hlt:t % (x::xs).length < (x::xs).length:=Nat.mod_lt _ (by simp)
        simp at hi
        simp at hlt
        omega
    | some i =>
      simp only []
      rw [linearise_go_acc,List.reverse_singleton,List.singleton_append]
      exact Qka (h1 i (List.mem_of_getElem? hi)) hb fun a' w' h'=>ih _ _ a' w' h'.2

end

section
variable {P:Program}
noncomputable def ZD (P:Program):Frame:={ (default:Frame) with fn:=P.funcs.size,defers:=[],mode:=.panicking [goexitEntry] }
theorem QIe {f : FuncId} {fn : Func} {c : Code} {caps : Array Value} {w : World} (hf : P.funcs[f]? = some fn) (hname : (fn.name == "runtime.NumGoroutine") = false) (hb : fn.body = some c) :
    stepG P false (born P { target:=.fn (.func f) caps,args:=#[] }) w=.go (G ((baseD f).at { tmps:=caps++Array.replicate (fn.ntmps - caps.size) undef,defers:=[] } [.code c]) [ZD P]) w #[]:=by
  have h1 : ¬ fn.name = "runtime.NumGoroutine" := by simpa using hname
  rw [← enter_atD caps hf hb]
  simp [G,born,ZD,stepG,unwind,callDeferred,invoke,callFunc,hf,h1,hb,GStep.after,seen_none,goexitEntry]
theorem QFq {f:FuncId} {fn:Func} {a:Act} {todo:List Item} (hf:P.funcs[f]?=some fn) (hr:fn.results=#[]) (hd:a.defers=[]):QuitsD P 2 0 (G { (baseD f).at a todo with mode:=.returning } [ZD P]):=by
  refine QuitsD.ctl (g':=G (ZD P) []) rfl (fun w=>?_) ?_
  · simp [G,stepG,unwind,doReturn,results,Frame.at,baseD,ZD,hf,hr,hd,seen,GStep.after,goexitEntry]
  refine QuitsD.ctl (g':={ G (ZD P) [] with status:=.finished }) rfl (fun w=>?_) ⟨rfl,rfl⟩
  simp [G,stepG,unwind,ZD,goexitEntry,Frame.catches]
  rfl
end
end Go.Gw
