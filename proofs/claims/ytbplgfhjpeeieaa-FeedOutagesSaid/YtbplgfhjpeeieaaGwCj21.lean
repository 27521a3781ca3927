/- Goroutines: a worker's birth, its region whose last operation is a send, its way out; goroutine 0's go statement and its receive. No condition. -/
import Derived.Test.YtbplgfhjpeeieaaGwCj20
import Derived.Test.YtbplgfhjpeeieaaGwCore
import Derived.Test.YtbplgfhjpeeieaaGwCj5
set_option linter.unusedVariables false
set_option linter.unusedSimpArgs false
set_option linter.unusedSectionVars false
set_option linter.unusedVariables false
set_option linter.unusedSectionVars false
namespace Go.Gw
open Go Go.Conc

section
variable {P : Program} [JD P] {n : Nat} {ρ : Env} {w : World}

theorem TS.toBK {ops : List Oper} {S : World → Prop} {m : Nat} {tail : List Nat} {Kt : Env → World → Prop} (hsel : Region.noSelect ops.toArray = true) (hw : Qem ops.toArray m = true) :
    ∀ (body : List (Nat × Bool)) (listed : Array Bool) (ρ : Env) (w : World),listed.size = ops.toArray.size → Closed ops.toArray listed → ZW listed m = body.length → Qez ops.toArray m tail body listed = true → S w →
    TS P n ops S Kt body ρ w →
    anyB P ops.toArray S (fun listed a w=>∃ ρ,a = act n ρ ∧ Qbn ops.toArray tail listed = true ∧ Kt ρ w) body.length listed (act n ρ) w
  | [],_,ρ,_,_,_,_,hok,_,h=>⟨ρ,rfl,hok,h⟩
  | (i,false) :: rest,listed,ρ,w,hls,hcl,hc,hok,hS,h=>by
    simp only [Qez,Bool.and_eq_true,Bool.false_eq_true,if_false] at hok
    obtain ⟨⟨him,hf,hr⟩,hrest⟩:=hok
    obtain ⟨o,v,hi',hq,ht⟩:=h
    have hi : ops.toArray[i]? = some o:=by simpa using hi'
    have him : i < m:=by simpa [Nat.blt_eq] using him
    have hr : i ∈ Region.ready .any ops.toArray listed:=by simpa using hr
    have hu:=(mem_ready.1 hr).1
    have hc':=Zv (listed:=listed) him (by simpa using hu)
    refine QCw hi him hw (Region.noSelect_spec hsel) rest.length listed _ w hls hcl (by rw [hc]; rfl) (Region.free_spec hi hf) hr hq.yields hS ?_
    rw [ZY]
    exact TS.toBK hsel hw rest _ _ w (by simpa using hls) (hcl.set hr) (by simp only [List.length_cons] at hc; omega) hrest hS ht
  | (i,true) :: rest,listed,ρ,w,hls,hcl,hc,hok,hS,h=>by
    simp only [Qez,Bool.and_eq_true,if_true,beq_iff_eq] at hok
    obtain ⟨⟨him,hr⟩,hrest⟩:=hok
    obtain ⟨o,hi',hs⟩:=h
    have hi : ops.toArray[i]? = some o:=by simpa using hi'
    have him : i < m:=by simpa [Nat.blt_eq] using him
    have hr' : i ∈ Region.ready .any ops.toArray listed:=by rw [hr]; simp
    have hu:=(mem_ready.1 hr').1
    have hc':=Zv (listed:=listed) him (by simpa using hu)
    refine ⟨by rw [hr]; simp,fun j hj=>?_⟩
    have hj : j = i:=by rw [hr] at hj; simpa using hj
    subst hj
    exact hs.toOp hi fun ρ w h'=>⟨h'.1,TS.toBK hsel hw rest _ _ w (by simpa using hls) (hcl.set hr') (by simp only [List.length_cons] at hc; omega) hrest h'.1 h'.2⟩

theorem QCx {ops : Array Oper} {S : World → Prop} {Kt : Array Bool → Act → World → Prop} {Kf : Act → World → Prop} {j : Nat} (hK : ∀ listed a w, Kt listed a w → Qbn ops [j] listed = true ∧ Kf a w)
    {b : Frame} {k : List Item} {cs : List Frame} {Stop : Goroutine → World → Prop} (hb : b.kind ≠ .early) (hF : ∀ a' w',Kf a' w' → Wlk (JD.j (P:=P)) Stop (G (b.at a' (.inRegion ops [j] :: k)) cs) w') :
    ∀ (fuel t : Nat) (listed : Array Bool) (a : Act) (w : World),anyB P ops S Kt fuel listed a w → Wlk (JD.j (P:=P)) Stop (G (b.at a (.inRegion ops (Region.linearise.go .any ops (fuel + 1) t listed []) :: k)) cs) w:=by
  intro fuel
  induction fuel with
  | zero =>
    intro t listed a w h
    obtain ⟨h1,h2⟩:=hK _ _ _ h
    simp only [Qbn,Bool.and_eq_true,beq_iff_eq] at h1
    have e : Region.linearise.go .any ops (0 + 1) t listed [] = [j]:=by
      rw [show Region.linearise.go .any ops (0 + 1) t listed [] = (match (Region.ready .any ops listed)[t % (Region.ready .any ops listed).length]? with
        | some i=>Region.linearise.go .any ops 0 (t / (Region.ready .any ops listed).length) (listed.setIfInBounds i true) [i]
        | none=>[].reverse) from rfl,h1.1]
      have : t % [j].length = 0:=by simp [Nat.mod_one]
      rw [this]
      rfl
    rw [e]
    exact hF a w h2
  | succ fuel ih =>
    intro t listed a w h
    obtain ⟨h0,h1⟩:=h
    rw [show Region.linearise.go .any ops (fuel + 1 + 1) t listed [] = (match (Region.ready .any ops listed)[t % (Region.ready .any ops listed).length]? with
      | some i=>Region.linearise.go .any ops (fuel + 1) (t / (Region.ready .any ops listed).length) (listed.setIfInBounds i true) [i]
      | none=>[].reverse) from rfl]
    cases hi : (Region.ready .any ops listed)[t % (Region.ready .any ops listed).length]? with
    | none =>
      exfalso
      cases hr : Region.ready .any ops listed with
      | nil=>exact h0 hr
      | cons x xs =>
        rw [hr] at hi
        have hlt : t % (x :: xs).length < (x :: xs).length:=Nat.mod_lt _ (by simp)
        simp at hi
        simp at hlt
        omega
    | some i =>
      simp only []
      rw [linearise_go_acc,List.reverse_singleton,List.singleton_append]
      exact Qpt (h1 i (List.mem_of_getElem? hi)) hb fun a' w' h'=>ih _ _ a' w' h'.2

theorem QUf {id : Nat} {ops : List Oper} {j : Nat} (S : World → World → Prop) (hm : P.follows .mixedOrders = true) (body : List (Nat × Bool)) (hok : Qtb ops.toArray j body [j] = true) (hS : ∀ w, S w w) {Kt : Env → World → Prop}
    {b : Frame} {k : List Item} {cs : List Frame} {Stop : Goroutine → World → Prop} (hb : b.kind ≠ .early)
    (h : TS P n ops (S { w with drawn:=w.drawn + 1 }) Kt body ρ { w with drawn:=w.drawn + 1 }) (hF : ∀ ρ' w',Kt ρ' w' → Wlk (JD.j (P:=P)) Stop (G (b.at (act n ρ') (.inRegion ops.toArray [j] :: k)) cs) w') :
    Wlk (JD.j (P:=P)) Stop (G (b.at (act n ρ) (.code (.region id ops.toArray true) :: k)) cs) w:=by
  simp only [Qtb,Bool.and_eq_true] at hok
  obtain ⟨⟨⟨⟨⟨hsel,hw⟩,hle⟩,hbl⟩,ht⟩,hbody⟩:=hok
  have hbl : body.length = j:=by simpa [Nat.beq_eq] using hbl
  have ht : j + 1 = ops.toArray.size:=by simpa [Nat.beq_eq] using ht
  have hle : j ≤ ops.toArray.size:=by simpa using hle
  have h1:=TS.toBK hsel hw body (Array.replicate ops.toArray.size false) ρ _ (by simp) (Closed.none _ _) (by rw [Qrk _ _ hle,hbl]) hbody (hS _) h
  refine .by rfl fun w1 r=>⟨_,_,QCa,?_⟩
  simp only [Region.schedule,hm,Bool.true_or,if_true]
  have h2:=QCx (Kf:=fun a w=>∃ ρ,a = act n ρ ∧ Kt ρ w) (fun listed a w ⟨ρ,ha,hok,h⟩=>⟨hok,ρ,ha,h⟩) hb (fun a' w' ⟨ρ',ha,h⟩=>by subst ha; exact hF ρ' w' h) body.length (w1.tape w1.drawn (.order b.fn id)) _ _ _ h1
  rw [hbl,ht] at h2
  exact h2.rely ⟨r.os,r.tape,r.output,r.size,r.block,r.fresh⟩
end

section
variable {P : Program}
noncomputable def JB (P : Program) : Frame:={ (default : Frame) with fn:=P.funcs.size,defers:=[],mode:=.panicking [goexitEntry] }
theorem QSr {f : FuncId} {fn : Func} {c : Code} {caps : Array Value} {w : World} (hf : P.funcs[f]? = some fn) (hname : (fn.name == "runtime.NumGoroutine") = false) (hb : fn.body = some c) :
    stepG P false (born P { target:=.fn (.func f) caps,args:=#[] }) w = .go (G ((baseD f).at { tmps:=caps ++ Array.replicate (fn.ntmps - caps.size) undef,defers:=[] } [.code c]) [JB P]) w #[]:=by
  have h1 : ¬ fn.name = "runtime.NumGoroutine" := by simpa using hname
  rw [← enter_atD caps hf hb]
  simp [G,born,JB,stepG,unwind,callDeferred,invoke,callFunc,hf,h1,hb,GStep.after,seen_none,goexitEntry]
theorem QOv {f : FuncId} {fn : Func} {a : Act} {todo : List Item} (hf : P.funcs[f]? = some fn) (hr : fn.results = #[]) (hd : a.defers = []) : QuitsD P 2 0 (G { (baseD f).at a todo with mode:=.returning } [JB P]):=by
  refine QuitsD.ctl (g':=G (JB P) []) rfl (fun w=>?_) ?_
  · simp [G,stepG,unwind,doReturn,results,Frame.at,baseD,JB,hf,hr,hd,seen,GStep.after,goexitEntry]
  refine QuitsD.ctl (g':={ G (JB P) [] with status:=.finished }) rfl (fun w=>?_) ⟨rfl,rfl⟩
  simp [G,stepG,unwind,JB,goexitEntry,Frame.catches]
  rfl
theorem QQu {f : FuncId} {fn : Func} {ops : Array Oper} {j : Nat} {o : Oper} {a : Act} {ch x : Operand} {c : Nat} {v : Value} {φ : Value → World → Prop} {w : World} (hf : P.funcs[f]? = some fn) (hr : fn.results = #[]) (hd : a.defers = [])
    (ho : ops[j]? = some o) (hop : o.op = .send ch x) (hw : Region.wanted o (yielded ops a.tmps) = true) (hdst : o.dst = none) (hc : a.eval ch = .chan (some c)) (hx : a.eval x = v) (hφ : ∀ w1,Rel w w1 → φ v w1) :
    Qay P c φ 4 (G ((baseD f).at a [.inRegion ops [j]]) [JB P]) w:=by
  have hrun : ∀ W,(execOp a.eval o).run P W = .ok (.comm #[scase c v (.tuple #[])] true .send) W:=fun W=>by simp [execOp,hop,hc,hx,scase]
  have hev : ∀ W,listed P f a o W = #[]:=fun W=>by
    unfold listed
    rw [show (execOp a.eval o).events P W #[] = #[] by simp [execOp,hop]]
    exact seen_none _ _
  refine ⟨rfl,G ((baseD f).at a [.inRegion ops [j]]) [JB P],v,.tuple #[],fun W=>?_,?_,hφ⟩
  · exact (stepG_comm ho hw (by simp [baseD]) (hrun W)).trans (by rw [show ((baseD f).fn) = f from rfl,hev])
  · have e : Conc.served (G ((baseD f).at a [.inRegion ops [j]]) [JB P]) undef = G ((baseD f).at a [.inRegion ops []]) [JB P] := by
      have h1 : ((baseD f).at a [.inRegion ops [j]]).finish undef = (baseD f).at a [.inRegion ops []]:=by
        rw [Frame.finish_at,ho]
        simp [hdst,Act.put]
      unfold Conc.served
      simp [G,h1]
    rw [e]
    exact .ctl rfl (fun _=>stepG_region_end) (.ctl rfl (fun _=>stepG_end) (QOv (todo:=[]) hf hr hd))

theorem PW.go {c : Nat} {S : Goroutine → World → Prop} {Z : Nat → Prop} {orig : Nat → Option Obj} {O : List (Value → World → Prop)} {b : Frame} {a : Act} {k : List Item} {cs : List Frame} {ops : Array Oper} {i : Nat} {rest : List Nat} {o : Oper} {cl : Call} {f : FuncId} {caps : Array Value} {w : World}
    (C : Nat → Prop) (φ : Value → World → Prop) (ho : ops[i]? = some o) (hop : o.op = .go cl) (hw : Region.wanted o (yielded ops a.tmps) = true) (hb : b.kind ≠ .early) (hd : ∀ W,(resolve a.eval cl o.type).run P W = .ok { target:=.fn (.func f) caps,args:=#[] } W) (hde : ∀ W,(resolve a.eval cl o.type).events P W #[] = #[])
    (hdst : o.dst = none)
    (hC : ∀ w1,Rel w w1 → Rows C w1) (hW : ∀ w1,Rel w w1 → Wlk (Jw P fun b=>Z b ∨ C b) (fun g w=>∃ k,Qay P c φ k g w) (born P { target:=.fn (.func f) caps,args:=#[] }) (hid (fun b=>Z b ∨ C b) (frz C w1)))
    (hn : ∀ w1,Rel w w1 → PW P c S (fun b=>Z b ∨ C b) (J9 Z C w1 orig) (O ++ [φ]) (G (b.at a (.inRegion ops rest :: k)) cs) (frz C w1)) : PW P c S Z orig O (G (b.at a (.inRegion ops (i :: rest) :: k)) cs) w:=by
  refine .fork _ _ C φ rfl (fun W=>?_) hC hW hn
  have hrun : (execOp a.eval o).run P W = .ok (.spawn { target:=.fn (.func f) caps,args:=#[] }) W:=by simp [execOp,hop,hd]
  have hev : listed P b.fn a o W = #[]:=by
    unfold listed
    rw [show (execOp a.eval o).events P W #[] = #[] by simp [execOp,hop,hde,hd]]
    exact seen_none _ _
  rw [stepG_spawn ho hw hb hrun rfl,hev,hdst]
  simp [Act.put]
theorem PW.rcv {c : Nat} {S : Goroutine → World → Prop} {Z : Nat → Prop} {orig : Nat → Option Obj} {O : List (Value → World → Prop)} {b : Frame} {a : Act} {k : List Item} {cs : List Frame} {ops : Array Oper} {i : Nat} {rest : List Nat} {o : Oper} {ct el : TypeId} {dir : ChanDir} {z : Value} {ch : Operand} {w : World}
    (ho : ops[i]? = some o) (hop : o.op = .recv ct ch false) (hw : Region.wanted o (yielded ops a.tmps) = true) (hb : b.kind ≠ .early) (hu : P.underlying ct = some (.chan dir el)) (hz : ∃ inf,P.info? el = some inf ∧ inf.zero = some z) (hc : a.eval ch = .chan (some c)) (hO : O ≠ [])
    (hn : ∀ O1 φ O2,O = O1 ++ φ :: O2 → ∀ w1 xw w' v,Rel w w1 → φ v xw → Shows xw w' → More w1 w' → (∀ b,b < c → w'.heap[b]? = w1.heap[b]?) → PW P c S Z orig (O1 ++ O2) (G (b.at (a.put o.dst v) (.inRegion ops rest :: k)) cs) w') : PW P c S Z orig O (G (b.at a (.inRegion ops (i :: rest) :: k)) cs) w:=by
  obtain ⟨inf,hi,hz⟩:=hz
  refine .recv (G (b.at a (.inRegion ops (i :: rest) :: k)) cs) z rfl (fun W=>?_) hO fun O1 φ O2 e w1 xw w' v h1 h2 h3 h4 h5=>?_
  · have hrun : (execOp a.eval o).run P W = .ok (.comm #[rcase c z] true (.recv false)) W:=by simp [execOp,hop,hc,rcase,run_underlying hu,zeroValue,typeInfo,hi,hz]
    have hev : listed P b.fn a o W = #[]:=by
      unfold listed
      have e1 : (execOp a.eval o).runT P W #[] = (.ok (.comm #[rcase c z] true (.recv false)) W,#[]):=by
        have h0 : execOp a.eval o = (do
          let d ← underlying ct
          match d with
          | .chan _ elem=>do
            let z ← zeroValue elem
            Pure.pure (Next.comm #[{ chan:=a.eval ch,send:=none,zero:=z }] true (.recv false))
          | _ => stuck "receive: channel type expected") := by simp only [execOp, hop]; rfl
        rw [h0,ZR (Qky hu)]
        have h1 : (zeroValue el).runT P W #[] = (.ok z W,#[]):=by
          unfold zeroValue
          rw [ZR (a:=inf) (w':=W) (es':=#[]) (by unfold typeInfo; rw [ZR (a:=P) (w':=W) (es':=#[]) rfl,hi]; rfl),hz]; rfl
        show (zeroValue el >>= fun z=>Pure.pure (Next.comm #[{ chan:=a.eval ch,send:=none,zero:=z }] true (.recv false))).runT P W #[] = _
        rw [ZR h1,hc]; rfl
      rw [Sem.runT_eq] at e1
      rw [(Prod.mk.inj e1).2]
      exact seen_none _ _
    rw [stepG_comm ho hw hb hrun,hev]
  · have:=hn O1 φ O2 e w1 xw w' v h1 h2 h3 h4 h5
    have e : Conc.served (G (b.at a (.inRegion ops (i :: rest) :: k)) cs) v = G (b.at (a.put o.dst v) (.inRegion ops rest :: k)) cs:=by
      have h1 : (b.at a (.inRegion ops (i :: rest) :: k)).finish v = b.at (a.put o.dst v) (.inRegion ops rest :: k):=by rw [Frame.finish_at,ho]; rfl
      unfold Conc.served
      simp [G,h1]
    rw [e]; exact this
end
end Go.Gw
