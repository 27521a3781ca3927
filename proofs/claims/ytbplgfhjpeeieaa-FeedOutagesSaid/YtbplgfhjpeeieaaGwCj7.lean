/- Goroutines: ranks; a channel without a buffer among many. No condition. -/
import Derived.Test.YtbplgfhjpeeieaaGwCj2
import Derived.Conc.Beside
set_option linter.unusedVariables false
set_option linter.unusedSimpArgs false
set_option linter.unusedSectionVars false
set_option linter.unusedVariables false
namespace Go.Gw
open Go Go.Conc

/-! ### Ranks -/
inductive Tr where
  | leaf
  | mk (f : World → Tr)
def Tr.sub (x y : Tr) : Prop:=∃ f w,y = .mk f ∧ x = f w
theorem Tr.acc (t : Tr) : Acc Tr.sub t:=by
  induction t with
  | leaf=>exact ⟨_,fun y ⟨f,w,h,_⟩=>by cases h⟩
  | mk f ih=>exact ⟨_,fun y ⟨g,w,h,e⟩=>by cases h; subst e; exact ih w⟩
def nt : Nat → Tr
  | 0=>.leaf
  | n + 1=>.mk fun _=>nt n
theorem QNt (n : Nat) : Tr.sub (nt n) (nt (n + 1)):=⟨_,default,rfl,rfl⟩
def Qhr (l' l : List Tr) : Prop:=∃ i x y,l[i]? = some x ∧ Tr.sub y x ∧ l' = l.set i y
theorem QCs : ∀ x : Tr,∀ l : List Tr,Acc Qhr l → Acc Qhr (x :: l):=fun x=>by
  induction Tr.acc x with
  | intro x _ ihx =>
    intro l hl
    induction hl with
    | intro l hl ihl =>
      refine ⟨_,fun l' ⟨i,a,b,h1,h2,h3⟩=>?_⟩
      subst h3
      cases i with
      | zero=>cases h1; exact ihx b h2 l ⟨l,hl⟩
      | succ i=>exact ihl _ ⟨i,a,b,by simpa using h1,h2,rfl⟩
theorem Qes : ∀ l : List Tr,Acc Qhr l
  | []=>⟨_,fun l' ⟨i,a,b,h1,_⟩=>by simp at h1⟩
  | x :: l=>QCs x l (Qes l)

/-! ### At the channel -/
section
variable {P : Program} {gs : Array Goroutine} {w w' : World} {sl : Option (Nat × Nat)}
abbrev fin0 : Goroutine:={ (default : Goroutine) with status:=.finished }
theorem Qqh {i : Nat} {g g' : Goroutine} {cs : Array CommCase} {bl : Bool} {sh : CommShape} {es : Array Event} (hi : gs[i]? = some g) (h : stepG P (i == 0) g w = .comm g' cs bl sh w' es) :
    runT P (crowd gs w sl) i = ((communicate P { timers:=#[],alone:=none,slice:=sl } (gs.setIfInBounds i fin0) i g' cs bl sh w').1,
      MemOp.ofEvents i g.frame.fn g.frame.place es ++ (communicate P { timers:=#[],alone:=none,slice:=sl } (gs.setIfInBounds i fin0) i g' cs bl sh w').2):=by
  obtain ⟨hlt,rfl⟩:=Array.getElem?_eq_some_iff.1 hi
  have hsw:=swapAt_of_lt hlt fin0
  have e : gs.set i fin0 = gs.setIfInBounds i fin0:=by simp [Array.setIfInBounds,hlt]
  show runT P { world:=w,gs:=gs,rest:={ timers:=#[],alone:=none,slice:=sl } } i = _
  unfold runT
  simp only [hsw,h,GStep.es,e]

def Qax (c : Nat) (gs : Array Goroutine) : Prop:=∀ (i : Nat) (g : Goroutine),gs[i]? = some g → g.status ≠ .blocked ∨ (∃ g2 v z,g = parked g2 #[scase c v z] .send) ∨ ∃ g2 z,g = parked g2 #[rcase c z] (.recv false)
theorem Qyq {c h k : Nat} (hF : Qax c gs) : (h,k) ∈ partners gs c true ↔ k = 0 ∧ ∃ g2 v z,gs[h]? = some (parked g2 #[scase c v z] .send):=by
  unfold partners
  rw [List.mem_flatMap]
  constructor
  · rintro ⟨⟨g,i⟩,hm,hx⟩
    have hgi : gs[i]? = some g:=by
      have:=Array.mem_toList_iff.1 hm
      simpa [Array.mem_zipIdx_iff_getElem?] using this
    rcases hF i g hgi with hb | ⟨g2,v,z,rfl⟩ | ⟨g2,z,rfl⟩
    · simp only at hx
      split at hx
      · exact absurd ‹_› hb
      · cases hx
    · simp [parked,scase] at hx
      obtain ⟨rfl,rfl⟩:=hx
      exact ⟨rfl,g2,v,z,hgi⟩
    · simp [parked,rcase] at hx
  · rintro ⟨rfl,g2,v,z,hg⟩
    refine ⟨(parked g2 #[scase c v z] .send,h),Array.mem_toList_iff.2 (by simpa [Array.mem_zipIdx_iff_getElem?] using hg),?_⟩
    simp [parked,scase]
theorem Qpw {c h k : Nat} (hF : Qax c gs) : (h,k) ∈ partners gs c false ↔ k = 0 ∧ ∃ g2 z,gs[h]? = some (parked g2 #[rcase c z] (.recv false)):=by
  unfold partners
  rw [List.mem_flatMap]
  constructor
  · rintro ⟨⟨g,i⟩,hm,hx⟩
    have hgi : gs[i]? = some g:=by
      have:=Array.mem_toList_iff.1 hm
      simpa [Array.mem_zipIdx_iff_getElem?] using this
    rcases hF i g hgi with hb | ⟨g2,v,z,rfl⟩ | ⟨g2,z,rfl⟩
    · simp only at hx
      split at hx
      · exact absurd ‹_› hb
      · cases hx
    · simp [parked,scase] at hx
    · simp [parked,rcase] at hx
      obtain ⟨rfl,rfl⟩:=hx
      exact ⟨rfl,g2,z,hgi⟩
  · rintro ⟨rfl,g2,z,hg⟩
    refine ⟨(parked g2 #[rcase c z] (.recv false),h),Array.mem_toList_iff.2 (by simpa [Array.mem_zipIdx_iff_getElem?] using hg),?_⟩
    simp [parked,rcase]

variable {c s r : Nat} {z v : Value} {i : Nat} {g : Goroutine} {rest : Rest}
theorem QDw (hc : w.heap[c]? = some (.chan 0 #[] false s r false)) (hp : partners gs c true = []) (ht : rest.timers = #[]) :
    communicate P rest gs i g #[rcase c z] true (.recv false) w = (.next { world:=w,gs:=gs.setIfInBounds i (parked g #[rcase c z] (.recv false)),rest },#[]):=by
  simp [communicate,ways,rcase,hc,hp,waitingAt,timerAhead,parked,ht]
theorem QDy (hc : w.heap[c]? = some (.chan 0 #[] false s r false)) (hp : partners gs c false = []) (ht : rest.timers = #[]) :
    communicate P rest gs i g #[scase c v z] true .send w = (.next { world:=w,gs:=gs.setIfInBounds i (parked g #[scase c v z] .send),rest },#[]):=by
  simp [communicate,ways,scase,hc,hp,waitingAt,timerAhead,parked,ht]

theorem Qys (n : Nat) (what : String) (w : World) (hn : 0 < n) : ∃ (b : Nat) (d : Nat),b < n ∧ (choose (.extern what n)).run P w = .ok b (w.at d):=by
  by_cases h1 : n = 1
  · subst h1; exact ⟨0,w.drawn,by omega,by simp [choose,Sem.run,Question.forced,World.at]⟩
  · refine ⟨w.tape w.drawn (.extern what n) % n,w.drawn + 1,Nat.mod_lt _ hn,?_⟩
    have h0 : n ≠ 0:=by omega
    simp [choose,Sem.run,Question.forced,h1,Question.cut,h0,World.at]
theorem QDv (hc : w.heap[c]? = some (.chan 0 #[] false s r false)) (hF : Qax c gs) (hp : partners gs c true ≠ []) :
    ∃ (d h : Nat) (g2 : Goroutine) (v z' : Value),gs[h]? = some (parked g2 #[scase c v z'] .send) ∧
      communicate P rest gs i g #[rcase c z] true (.recv false) w = (.next { world:=(w.passed c s r false).at d,gs:=(gs.setIfInBounds h (Conc.served g2 undef)).setIfInBounds i (Conc.served g v),rest },
        #[{ g:=h,fn:=g2.frame.fn,pos:=g2.frame.place,act:=.send c s },{ g:=i,fn:=g.frame.fn,pos:=g.frame.place,act:=.recv c r 0 },
          { g:=h,fn:=g2.frame.fn,pos:=g2.frame.place,act:=.sendDone c s },{ g:=i,fn:=g.frame.fn,pos:=g.frame.place,act:=.recvDone c r }]):=by
  obtain ⟨⟨h0,k0⟩,ps,hps⟩:=List.exists_cons_of_ne_nil hp
  obtain ⟨b, d, hb, hch⟩ := Qys (P := P) (partners gs c true).length "which waiting goroutine is the partner" w (by rw [hps]; simp)
  have hmem : (partners gs c true)[b] ∈ partners gs c true:=List.getElem_mem hb
  generalize hx : (partners gs c true)[b] = x at hmem
  obtain ⟨h,k⟩:=x
  obtain ⟨rfl,g2,v,z',hg⟩:=(Qyq hF).1 hmem
  refine ⟨d,h,g2,v,z',hg,?_⟩
  have hlt : h < gs.size:=(Array.getElem?_eq_some_iff.1 hg).1
  have hways : ways w gs (rcase c z) = (partners gs c true).map fun (h,k)=>Way.partner h k:=by
    simp only [ways,rcase,hc,Array.size_empty,Nat.lt_irrefl,if_false,gt_iff_lt,hps]
  have hne : ((partners gs c true).map fun (h,k)=>Way.partner h k).isEmpty = false:=by rw [hps]; rfl
  have hget : ((partners gs c true).map fun (h,k)=>Way.partner h k).getD b .closed = .partner h 0:=by
    rw [List.getD_eq_getElem?_getD,List.getElem?_map,List.getElem?_eq_getElem hb,hx]; rfl
  have hlen : ((partners gs c true).map fun (h,k)=>Way.partner h k).length = (partners gs c true).length:=by simp
  have hgd : gs.getD h default = parked g2 #[scase c v z'] .send:=by simp [Array.getD,hlt,(Array.getElem?_eq_some_iff.1 hg).2]
  have hoff : offeredValue gs h 0 = v:=by simp [offeredValue,hg,parked,scase]
  have hfin : finishPartner P gs h 0 undef = gs.setIfInBounds h (Conc.served g2 undef):=by
    apply Array.ext_getElem?
    intro j
    by_cases hj : h = j
    · subst hj
      obtain ⟨_,he⟩:=Array.getElem?_eq_some_iff.1 hg
      simp [finishPartner,Array.getElem_modify,he,hlt,parked,scase,Goroutine.finishComm,Conc.served,commResult]
    · simp [finishPartner,Array.getElem?_modify,Array.getElem?_setIfInBounds_ne hj,hj]
  have hsel : (choose (.select 1)).run P w = .ok 0 w:=by simp [choose,Sem.run,Question.forced]
  have hc' : (w.at d).heap[c]? = some (.chan 0 #[] false s r false):=hc
  have hfr : (parked g2 #[scase c v z'] .send).frame = g2.frame:=rfl
  have hready : ((#[rcase c z].zipIdx.toList.map fun (c,k)=>(k,c,ways w gs c)).filter fun (_,_,ws)=>!ws.isEmpty) = [(0,rcase c z,(partners gs c true).map fun (h,k)=>Way.partner h k)]:=by
    show List.filter (fun x : Nat × CommCase × List Way=>!x.2.2.isEmpty) [(0,rcase c z,ways w gs (rcase c z))] = _
    rw [hways,List.filter_cons_of_pos (by simpa using hne)]; rfl
  have hill : (#[rcase c z].any fun c=>match c.chan with | .chan none=>false | .chan (some r)=>!(w.heap[r]? matches some (.chan ..)) | _=>true) = false:=by simp [rcase,hc]
  unfold communicate
  simp only [hready,Bool.false_eq_true,if_false,List.isEmpty_cons,Sem.run_bind,List.length_singleton,hsel,Result.andThen,List.getD_cons_zero,hlen,hch,hget,Sem.run_pure]
  simp only [rcase,World.passed,World.at,Goroutine.finishComm,commResult]
  simp [hc]
  rw [hfin,hoff]
  exact ⟨rfl,by simp [hg,parked],by simp [hg,parked]⟩
theorem QDx (hc : w.heap[c]? = some (.chan 0 #[] false s r false)) (hF : Qax c gs) (hp : partners gs c false ≠ []) :
    ∃ (d h : Nat) (g2 : Goroutine) (z' : Value),gs[h]? = some (parked g2 #[rcase c z'] (.recv false)) ∧
      communicate P rest gs i g #[scase c v z] true .send w = (.next { world:=(w.passed c s r false).at d,gs:=(gs.setIfInBounds h (Conc.served g2 v)).setIfInBounds i (Conc.served g undef),rest },
        #[{ g:=i,fn:=g.frame.fn,pos:=g.frame.place,act:=.send c s },{ g:=h,fn:=g2.frame.fn,pos:=g2.frame.place,act:=.recv c r 0 },
          { g:=i,fn:=g.frame.fn,pos:=g.frame.place,act:=.sendDone c s },{ g:=h,fn:=g2.frame.fn,pos:=g2.frame.place,act:=.recvDone c r }]):=by
  obtain ⟨⟨h0,k0⟩,ps,hps⟩:=List.exists_cons_of_ne_nil hp
  obtain ⟨b, d, hb, hch⟩ := Qys (P := P) (partners gs c false).length "which waiting goroutine is the partner" w (by rw [hps]; simp)
  have hmem : (partners gs c false)[b] ∈ partners gs c false:=List.getElem_mem hb
  generalize hx : (partners gs c false)[b] = x at hmem
  obtain ⟨h,k⟩:=x
  obtain ⟨rfl,g2,z',hg⟩:=(Qpw hF).1 hmem
  refine ⟨d,h,g2,z',hg,?_⟩
  have hlt : h < gs.size:=(Array.getElem?_eq_some_iff.1 hg).1
  have hways : ways w gs (scase c v z) = (partners gs c false).map fun (h,k)=>Way.partner h k:=by
    simp only [ways,scase,hc,Array.size_empty,Nat.lt_irrefl,if_false,gt_iff_lt,hps,Bool.false_eq_true]
  have hne : ((partners gs c false).map fun (h,k)=>Way.partner h k).isEmpty = false:=by rw [hps]; rfl
  have hget : ((partners gs c false).map fun (h,k)=>Way.partner h k).getD b .closed = .partner h 0:=by
    rw [List.getD_eq_getElem?_getD,List.getElem?_map,List.getElem?_eq_getElem hb,hx]; rfl
  have hlen : ((partners gs c false).map fun (h,k)=>Way.partner h k).length = (partners gs c false).length:=by simp
  have hgd : gs.getD h default = parked g2 #[rcase c z'] (.recv false):=by simp [Array.getD,hlt,(Array.getElem?_eq_some_iff.1 hg).2]
  have hfin : finishPartner P gs h 0 v = gs.setIfInBounds h (Conc.served g2 v):=by
    apply Array.ext_getElem?
    intro j
    by_cases hj : h = j
    · subst hj
      obtain ⟨_,he⟩:=Array.getElem?_eq_some_iff.1 hg
      simp [finishPartner,Array.getElem_modify,he,hlt,parked,rcase,Goroutine.finishComm,Conc.served,commResult]
    · simp [finishPartner,Array.getElem?_modify,Array.getElem?_setIfInBounds_ne hj,hj]
  have hsel : (choose (.select 1)).run P w = .ok 0 w:=by simp [choose,Sem.run,Question.forced]
  have hfr : (parked g2 #[rcase c z'] (.recv false)).frame = g2.frame:=rfl
  have hready : ((#[scase c v z].zipIdx.toList.map fun (c,k)=>(k,c,ways w gs c)).filter fun (_,_,ws)=>!ws.isEmpty) = [(0,scase c v z,(partners gs c false).map fun (h,k)=>Way.partner h k)]:=by
    show List.filter (fun x : Nat × CommCase × List Way=>!x.2.2.isEmpty) [(0,scase c v z,ways w gs (scase c v z))] = _
    rw [hways,List.filter_cons_of_pos (by simpa using hne)]; rfl
  have hill : (#[scase c v z].any fun c=>match c.chan with | .chan none=>false | .chan (some r)=>!(w.heap[r]? matches some (.chan ..)) | _=>true) = false:=by simp [scase,hc]
  unfold communicate
  simp only [hready,Bool.false_eq_true,if_false,List.isEmpty_cons,Sem.run_bind,List.length_singleton,hsel,Result.andThen,List.getD_cons_zero,hlen,hch,hget,Sem.run_pure]
  simp only [scase,World.passed,World.at,Goroutine.finishComm,commResult]
  simp [hc]
  rw [hfin]
  exact ⟨rfl,by simp [hg,parked],by simp [hg,parked]⟩
end
end Go.Gw
