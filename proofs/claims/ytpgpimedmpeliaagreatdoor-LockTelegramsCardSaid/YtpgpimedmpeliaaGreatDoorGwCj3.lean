/- Goroutines: a piece of code, an operation, a call in a goroutine's view. No condition. -/
import Derived.Test.YtpgpimedmpeliaaGreatDoorGwCj2
set_option linter.unusedVariables false
set_option linter.unusedSimpArgs false
set_option linter.unusedSectionVars false
set_option linter.unusedVariables false
namespace Go.Gw
open Go Go.Conc

section
variable {P:Program}
def AfterJ (J:Jd P) (Stop:Goroutine→World→Prop) (b:Frame) (k:List Item) (cs:List Frame):Exit→Act→World→Prop
  | .normal,a,w=>Wlk J Stop (G (b.at a k) cs) w
  | .exit id,a,w=>∃ k',exitTo id k=some k'∧Wlk J Stop (G (b.at a k') cs) w
  | .ret,a,w=>∀ todo,Wlk J Stop (G { b.at a todo with mode:=.returning } cs) w
  | _,_,_=>False
def Yu (J:Jd P) (c:Code) (Q:Exit→Act→World→Prop) (a:Act) (w:World):Prop :=
  ∀ (b:Frame) (k:List Item) (cs:List Frame) (Stop:Goroutine→World→Prop),b.kind≠.early →
    (∀ e a' w',Q e a' w'→AfterJ J Stop b k cs e a' w')→Wlk J Stop (G (b.at a (.code c::k)) cs) w
def Qag (J:Jd P) (ops:Array Oper) (todo:List Nat) (Q:Exit→Act→World→Prop) (a:Act) (w:World):Prop :=
  ∀ (b:Frame) (k:List Item) (cs:List Frame) (Stop:Goroutine→World→Prop),b.kind≠.early →
    (∀ e a' w',Q e a' w'→AfterJ J Stop b k cs e a' w')→Wlk J Stop (G (b.at a (.inRegion ops todo::k)) cs) w
def CallsJ (J:Jd P) (f:FuncId) (args:Array Value) (w:World) (Φ:Value→World→Prop):Prop :=
  ∀ (c:Frame) (cs:List Frame) (Stop:Goroutine→World→Prop),(∀ v w',Φ v w'→Wlk J Stop (G (c.finish v) cs) w')→Wlk J Stop (G (Frame.enter P f args .normal) (c::cs)) w
def upJ (J:Jd P) (o:Oper) (a:Act) (K:Act→World→Prop):Result Next→Prop
  | .ok (.value v) w'=>K (a.put o.dst v) w'
  | .ok .skip w'=>K (a.put o.dst undef) w'
  | .ok (.enter f args) w'=>CallsJ J f args w' (fun v w''=>K (a.put o.dst v) w'')
  | _=>False
def Ym (J:Jd P) (ops:Array Oper) (i:Nat) (K:Act→World→Prop) (a:Act) (w:World):Prop :=
  match ops[i]? with
  | none=>False
  | some o=>if Region.wanted o (yielded ops a.tmps) then Fr P (execOp a.eval o) w∧((∃ v,(∀ w1,Rel w w1→(execOp a.eval o).run P w1=.ok (.value v) w1)∧K (a.put o.dst v) w)∨∀ w1,Rel w w1→upJ J o a K ((execOp a.eval o).run P w1)) else K (a.put o.dst undef) w

variable {J:Jd P} {Q:Exit→Act→World→Prop} {a:Act} {w:World}
theorem AfterJ.push {Stop:Goroutine→World→Prop} {b:Frame} {x:Item} {k:List Item} {cs:List Frame} {e:Exit} (hx:x.plain=true) (he:e≠.normal) (h:AfterJ J Stop b k cs e a w):AfterJ J Stop b (x::k) cs e a w:=by
  cases e with
  | normal=>exact absurd rfl he
  | exit id=>obtain ⟨k',hk,hg⟩:=h;exact ⟨k',by cases x<;>simp_all [exitTo,Item.plain],hg⟩
  | ret=>exact h
  | goto l=>exact h
  | panic ch=>exact h
  | outgrown=>exact h
theorem CallsJ.mono {f:FuncId} {args:Array Value} {Φ Ψ:Value→World→Prop} (h:CallsJ J f args w Φ) (hm:∀ v w',Φ v w'→Ψ v w'):CallsJ J f args w Ψ:=fun c cs Stop hk=>h c cs Stop fun v w' hv=>hk v w' (hm v w' hv)
theorem CallsJ.rely {f:FuncId} {args:Array Value} {Φ:Value→World→Prop} {w1:World} (h:CallsJ J f args w Φ) (r:Rel w w1):CallsJ J f args w1 Φ:=fun c cs Stop hk=>(h c cs Stop hk).rely r
theorem JS {c:Code} {Q':Exit→Act→World→Prop} (h:Yu J c Q a w) (hq:∀ e a w,Q e a w→Q' e a w):Yu J c Q' a w :=
  fun b k cs Stop hb hc=>h b k cs Stop hb fun e a' w' q=>hc e a' w' (hq e a' w' q)
theorem QKl (h:Q .normal a w):Yu J .skip Q a w:=fun b k cs Stop _ hc=>.ctl rfl (fun _=>stepG_skip) (hc _ _ _ h)
theorem QKj (h:Q .ret a w):Yu J .ret Q a w:=fun b k cs Stop _ hc=>.ctl rfl (fun _=>stepG_ret') (hc _ _ _ h _)
theorem QKg {id:Nat} (h:Q (.exit id) a w):Yu J (.exit id) Q a w:=fun b k cs Stop _ hc=>by
  obtain ⟨k',hk',hg⟩:=hc _ _ _ h
  exact .ctl rfl (fun _=>stepG_exit hk') hg
theorem QKk {x y:Code} (h:Yu J x (Exit.then (fun a' w'=>Yu J y Q a' w') Q) a w):Yu J (.seq x y) Q a w:=by
  intro b k cs Stop hb hc
  refine .ctl rfl (fun _=>stepG_seq) (h b (.code y::k) cs Stop hb fun e a' w' q=>?_)
  cases e with
  | normal=>exact q b k cs Stop hb hc
  | exit id=>exact (hc _ _ _ q).push rfl (by simp)
  | ret=>exact (hc _ _ _ q).push (x:=.code y) rfl (by simp)
  | goto l=>exact hc _ _ _ q
  | panic ch=>exact hc _ _ _ q
  | outgrown=>exact hc _ _ _ q
theorem QKf {c:Operand} {x y:Code} {t:Bool} (hc:a.eval c=.bool t) (h1:t=true→Yu J x Q a w) (h2:t=false→Yu J y Q a w):Yu J (.cond c x y) Q a w:=by
  intro b k cs Stop hb hq
  refine .ctl rfl (fun _=>stepG_cond hc) ?_
  cases t
  · exact h2 rfl b k cs Stop hb hq
  · exact h1 rfl b k cs Stop hb hq
theorem QKe {id:Nat} {c:Code} (h:Yu J c (Exit.inBlock id Q) a w):Yu J (.block id c) Q a w:=by
  intro b k cs Stop hb hc
  refine .ctl rfl (fun _=>stepG_block) (h b (.inBlock id::k) cs Stop hb fun e a' w' q=>?_)
  cases e with
  | normal=>exact .ctl rfl (fun _=>stepG_inBlock) (hc _ _ _ q)
  | exit id' =>
    by_cases hid:id'=id
    · simp only [Exit.inBlock,hid,if_true] at q
      exact ⟨k,by simp [exitTo,hid],hc _ _ _ q⟩
    · simp only [Exit.inBlock,hid,if_false] at q
      obtain ⟨k',hk',hg⟩:=hc _ _ _ q
      have:(id == id')=false:=by simp;exact fun h=>hid h.symm
      exact ⟨k',by simp [exitTo,this,hk'],hg⟩
  | ret=>exact fun todo=>hc _ _ _ q todo
  | goto l=>exact hc _ _ _ q
  | panic ch=>exact hc _ _ _ q
  | outgrown=>exact hc _ _ _ q
theorem QKh {c : Code} (I : Act → World → Prop) (μ : Act → World → Nat) (h0 : I a w)
    (round:∀ a w,I a w→Yu J c (Exit.then (fun a' w'=>I a' w'∧μ a' w' < μ a w) Q) a w):Yu J (.loop c) Q a w:=by
  intro b k cs Stop hb hc
  have key:∀ N a w,μ a w < N→I a w→Wlk J Stop (G (b.at a (.code c::.inLoop c::k)) cs) w:=by
    intro N
    induction N with
    | zero=>intro a w hμ;omega
    | succ N ih =>
      intro a w hμ hI
      refine round a w hI b (.inLoop c::k) cs Stop hb fun e a' w' q=>?_
      cases e with
      | normal=>exact .ctl rfl (fun _=>stepG_inLoop) (ih a' w' (by have:=q.2;omega) q.1)
      | exit id=>exact (hc _ _ _ q).push rfl (by simp)
      | ret=>exact (hc _ _ _ q).push (x:=.inLoop c) rfl (by simp)
      | goto l=>exact hc _ _ _ q
      | panic ch=>exact hc _ _ _ q
      | outgrown=>exact hc _ _ _ q
  exact .ctl rfl (fun _=>stepG_loop) (key _ a w (Nat.lt_succ_self _) h0)

/-! ### Regions -/
theorem QJt {o:Oper} {K K':Act→World→Prop} (h:∀ a w,K a w→K' a w) {r:Result Next} (hh:upJ J o a K r):upJ J o a K' r:=by
  cases r with
  | ok n w'=>cases n<;>first | exact h _ _ hh | exact CallsJ.mono hh (fun _ _=>h _ _) | exact hh
  | halt x w'=>exact hh
theorem Qgd {ops:Array Oper} {i:Nat} {K K':Act→World→Prop} (h:∀ a w,K a w→K' a w) (hh:Ym J ops i K a w):Ym J ops i K' a w:=by
  unfold Ym at *
  split
  · simp_all
  · rename_i o ho
    simp only [ho] at hh
    split
    · rename_i hw;simp only [hw,if_true] at hh;exact ⟨hh.1,hh.2.imp (fun ⟨v,h1,h2⟩=>⟨v,h1,h _ _ h2⟩) (fun hh w1 r=>QJt h (hh w1 r))⟩
    · rename_i hw;simp only [hw] at hh;exact h _ _ hh
theorem Qkb {ops:Array Oper} (h:Q .normal a w):Qag J ops [] Q a w:=fun b k cs Stop _ hc=>.ctl rfl (fun _=>stepG_region_end) (hc _ _ _ h)
theorem Qka {ops : Array Oper} {i : Nat} {rest : List Nat} {K : Act → World → Prop} (h : Ym J ops i K a w) {b : Frame} {k : List Item} {cs : List Frame} {Stop : Goroutine → World → Prop} (hb : b.kind ≠ .early)
    (hK:∀ a' w',K a' w'→Wlk J Stop (G (b.at a' (.inRegion ops rest::k)) cs) w'):Wlk J Stop (G (b.at a (.inRegion ops (i::rest)::k)) cs) w:=by
  unfold Ym at h
  have hk:=hb
  split at h
  · exact h.elim
  · rename_i o ho
    have hfin:∀ v,(b.at a (.inRegion ops (i::rest)::k)).finish v=b.at (a.put o.dst v) (.inRegion ops rest::k):=fun v=>by rw [Frame.finish_at,ho];rfl
    split at h
    · rename_i hw
      obtain ⟨htm,h⟩:=h
      refine .by rfl fun w1 r=>?_
      rcases h with ⟨v,h1,h2⟩ | h
      · exact ⟨_,w1,Qgy (htm.rely r) (h1 w1 r) (fun W W' hW=>stepG_value ho hw hk hW),(hK _ _ h2).rely r⟩
      have h1:=h w1 r
      generalize hr:(execOp a.eval o).run P w1=x at h1
      match x,h1,hr with
      | .ok (.value v) w',h1,hr=>exact ⟨_,w',Qgy (htm.rely r) hr (fun W W' hW=>stepG_value ho hw hk hW),hK _ _ h1⟩
      | .ok .skip w',h1,hr=>exact ⟨_,w',Qgy (htm.rely r) hr (fun W W' hW=>stepG_none ho hw hk hW),hK _ _ h1⟩
      | .ok (.enter f args) w',h1,hr =>
        refine ⟨_,w',Qgy (htm.rely r) hr (fun W W' hW=>stepG_enter ho hw hk hW),h1 _ _ _ fun v w'' hv=>?_⟩
        rw [hfin];exact hK _ _ hv
    · rename_i hw
      exact .ctl rfl (fun _=>stepG_unwanted ho (by simpa using hw)) (hK _ _ h)
theorem Qqe {ops:Array Oper} {i:Nat} {rest:List Nat} (h:Ym J ops i (fun a' w'=>Qag J ops rest Q a' w') a w):Qag J ops (i::rest) Q a w :=
  fun b k cs Stop hb hc=>Qka h hb fun a' w' h'=>h' b k cs Stop hb hc
theorem QKi {id:Nat} {ops:Array Oper} (h:Qag J ops (List.range ops.size) Q a w):Yu J (.region id ops false) Q a w :=
  fun b k cs Stop hb hc=>.ctl rfl (fun _=>stepG_region) (h b k cs Stop hb hc)
def Js (J:Jd P) (ops:Array Oper) (Q:Exit→Act→World→Prop):Nat→Array Bool→Act→World→Prop
  | 0,listed,a,w=>Region.ready .any ops listed=[]∧Q .normal a w
  | fuel+1,listed,a,w=>(Region.ready .any ops listed=[]→Q .normal a w)∧∀ i∈Region.ready .any ops listed,Ym J ops i (fun a' w'=>Js J ops Q fuel (listed.setIfInBounds i true) a' w') a w
theorem Quu {ops:Array Oper}:∀ (fuel t:Nat) (listed:Array Bool) (a:Act) (w:World),Js J ops Q fuel listed a w→Qag J ops (Region.linearise.go .any ops fuel t listed []) Q a w:=by
  intro fuel
  induction fuel with
  | zero=>intro t listed a w h;simpa [Region.linearise.go] using Qkb h.2
  | succ fuel ih =>
    intro t listed a w h
    obtain ⟨h0,h1⟩:=h
    simp only [Region.linearise.go]
    change Qag J ops (match (Region.ready .any ops listed)[t % (Region.ready .any ops listed).length]? with
      | some i=>Region.linearise.go .any ops fuel (t / (Region.ready .any ops listed).length) (listed.setIfInBounds i true) [i]
      | none=>[].reverse) Q a w
    cases hi:(Region.ready .any ops listed)[t % (Region.ready .any ops listed).length]? with
    | none =>
      have hnil:Region.ready .any ops listed=[]:=by
        cases hr:Region.ready .any ops listed with
        | nil=>rfl
        | cons x xs =>
          rw [hr] at hi
          have hlt:t % (x::xs).length < (x::xs).length:=Nat.mod_lt _ (by simp)
          simp at hi
          simp at hlt
          omega
      simpa using Qkb (h0 hnil)
    | some i =>
      simp only []
      rw [linearise_go_acc,List.reverse_singleton,List.singleton_append]
      exact Qqe (Qgd (fun a' w' x=>ih _ _ a' w' x) (h1 i (List.mem_of_getElem? hi)))
theorem Qtl {id:Nat} {ops:Array Oper} (hm:P.follows .mixedOrders=true) (h:Js J ops Q ops.size (Array.replicate ops.size false) a { w with drawn:=w.drawn+1 }):Yu J (.region id ops true) Q a w :=
  fun b k cs Stop hb hc=>.by rfl fun w1 r=>⟨_,_,Qth,by
    simp only [Region.schedule,hm,Bool.true_or,if_true]
    exact (Quu ops.size _ _ a _ h b k cs Stop hb hc).rely ⟨r.os,r.tape,r.output,r.size,r.block,r.fresh⟩⟩

/-! ### Functions -/
def Qvg (P:Program) (fn:Func) (Φ:Value→World→Prop):Exit→Act→World→Prop
  | .normal,a,w | .ret,a,w=>a.defers=[]∧Tame P (results fn a.tmps)∧∃ v,(∀ w1,Rel w w1→(results fn a.tmps).run P w1=.ok v w1)∧Φ v w
  | _,_,_=>False
theorem Qic {f : FuncId} {fn : Func} {c : Code} {args : Array Value} {Φ : Value → World → Prop} (hf : P.funcs[f]? = some fn) (hb : fn.body = some c)
    (h:Yu J c (Qvg P fn Φ) { tmps:=args++Array.replicate (fn.ntmps - args.size) undef,defers:=[] } w):CallsJ J f args w Φ:=by
  intro c0 cs Stop hk
  rw [enter_at _ hf hb]
  have hleave : ∀ (a' : Act) (w' : World) (todo : List Item), (a'.defers = [] ∧ Tame P (results fn a'.tmps) ∧ ∃ v, (∀ w1, Rel w' w1 → (results fn a'.tmps).run P w1 = .ok v w1) ∧ Φ v w') →
      Wlk J Stop (G { (base f).at a' todo with mode:=.returning } (c0::cs)) w':=by
    rintro a' w' todo ⟨hd,htr,v,hr,hp⟩
    exact .by rfl fun w1 r=>⟨_,w1,Qti (b:=base f) rfl hd hf htr (hr w1 r),(hk v w' hp).rely r⟩
  refine h (base f) [] _ Stop (by simp [base]) fun e a' w' q=>?_
  cases e with
  | normal=>exact .ctl rfl (fun _=>stepG_end) (hleave a' w' [] q)
  | ret=>exact fun todo=>hleave a' w' todo q
  | exit id=>exact q.elim
  | goto l=>exact q.elim
  | panic ch=>exact q.elim
  | outgrown=>exact q.elim
end
end Go.Gw
