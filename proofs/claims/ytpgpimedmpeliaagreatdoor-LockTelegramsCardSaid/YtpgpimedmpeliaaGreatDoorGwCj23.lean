/- Goroutines: a whole run: a function called by nobody; its first view; from its walk to the kit's good run. No condition. -/
import Derived.Test.YtpgpimedmpeliaaGreatDoorGwCj22
set_option linter.unusedVariables false
set_option linter.unusedSimpArgs false
set_option linter.unusedSectionVars false
set_option linter.unusedVariables false
set_option linter.unusedSectionVars false
namespace Go.Gw
open Go Go.Conc
open Go.ConcN (sumTo)
section
variable {P:Program}
def Qen (P:Program) (f:FuncId) (args:List Value) (w:World) (Φ:Value→World→Prop):Prop:=Wlk (Jm P) (fun g w=>∀ w1,Rel w w1→Qeo P Φ g w1) (G (Frame.enter P f args.toArray .normal) []) w

theorem QJw {b : Frame} {a : Act} {todo : List Item} {fn : Func} {v : Value} {Φ : Value → World → Prop} {w : World} (hn : b.kind = .normal) (hd : a.defers = []) (hf : P.funcs[b.fn]? = some fn) (ht : Tame P (results fn a.tmps)) (hr : (results fn a.tmps).run P w = .ok v w)
    (hi:P.inits.idxOf? b.fn=none) (hΦ:Φ v w):Qeo P Φ (G { b.at a todo with mode:=.returning } []) w:=by
  refine ⟨rfl,v,hΦ,fun F W hv hA=>?_⟩
  have hT:∀ w,(results fn a.tmps).runT P w #[]=((results fn a.tmps).run P w,(results fn a.tmps).events P w #[]):=fun w=>Sem.runT_eq P _ w #[]
  have h0:=hT w
  rw [hr] at h0
  obtain ⟨F',W',us,h1,h2,_,h4,h5⟩:=frame ht hA hv h0
  have h6:=hT W
  rw [h1] at h6
  have h7:=(Prod.mk.inj h6).1
  have h8:=(Prod.mk.inj h6).2
  have hW:W'=W:=by
    have e1:W'.heap=W.heap:=by
      apply Array.ext_getElem?
      intro i
      rcases Nat.lt_or_ge i W.heap.size with hlt | hge
      · rcases Classical.em (F i) with hF | hF
        · rw [h2.agr.own i (h2.more i hF) (fun h=>h),hA.own i hF (fun h=>h)]
        · exact h2.keep i hlt (.inl hF)
      · have:=h2.agr.size
        have:=hA.size
        rw [Array.getElem?_eq_none hge,Array.getElem?_eq_none (by omega)]
    have e2:W'.drawn=W.drawn:=by rw [h2.agr.drawn,hA.drawn]
    obtain ⟨e3,e4,e5⟩:=h2.same
    cases W';cases W
    simp only at e1 e2 e3 e4 e5
    subst e1;subst e2;subst e3;subst e4;subst e5;rfl
  subst hW
  have hF:∀ b,F' b→F b:=fun b hb=>by
    rcases h2.new b hb with h | ⟨h,h'⟩
    · exact h
    · omega
  refine ⟨seen P b.fn ((results fn a.tmps).events P W' #[]),?_,fun e he=>?_⟩
  · simp [G,stepG,unwind,doReturn,Frame.at,hn,hd,hf,← h7,GStep.after,hi]
  · have:=mem_seen he
    rw [← h8,h4] at this
    have h9:=h5 e (by simpa using this)
    rcases h9 with ⟨ad,k1,k2,k3,k4⟩ | h9
    · exact .inl ⟨ad,k1,k2,hF _ k3,k4⟩
    · exact .inr h9
end
section
variable {P:Program} {n:Nat} {w:World}
theorem QJp {f : FuncId} {fn : Func} {c : Code} {args : List Value} {rs : List ResultVar} {r : Bool} [inst : JD P] (hj : inst.j = Jm P) (hi : P.inits.idxOf? f = none) (hf : P.funcs[f]? = some fn) (hb : fn.body = some c) (hn : fn.ntmps = n) (hl : Nat.ble args.length n = true)
    (hr:fn.results=rs.toArray) (hm:X8 rs n=true)
    (h:WC P n c ⟨fun _ _=>False,fun _ _ _=>False,fun ρ w'=>∃ vs,Zc P ρ w' rs vs∧(Ext w w'∧(.bool r)=YI vs)⟩ (fun i=>args.getD i undef) w):Qen P f args w (fun v w'=>Ext w w'∧(.bool r)=v):=by
  unfold Qen
  have hl:args.length≤n:=by simpa using hl
  rw [enter_at _ hf hb,hn,Qbb args n hl,← hj]
  refine h (base f) [] [] _ (by simp [base]) fun e a w he=>?_
  cases e<;>first
    | exact he.elim
    | (obtain ⟨_,_,hf⟩:=he;exact hf.elim)
    | skip
  obtain ⟨ρ,rfl,vs,hv,hΦ⟩:=he
  exact fun todo=>.stop fun w1 r1 w2 r2=>QJw (b:=base f) rfl rfl hf (Qec hr hm hv) (Qdi hr hm (r1.trans r2) hv) hi ⟨hΦ.1.trans (r1.trans r2).ext,hΦ.2⟩
end
/-! ### The first view -/
def Qca:Obj→Obj
  | .view ..=>XJ
  | o=>o
def Y8 (W:World):World:={ W with heap:=W.heap.map Qca }
def Qdn (W:World):Nat→Prop:=fun b=>∃ o,W.heap[b]?=some o∧Qca o=o
theorem Qgx {W:World} {b:Nat}:(Y8 W).heap[b]?=(W.heap[b]?).map Qca:=by simp [Y8]
theorem QJs {o:Obj} (h:Qca o≠o):Qca o=XJ:=by
  cases o<;>first | rfl | exact absurd rfl h
theorem Qtf (W:World):Agr (Qdn W) (fun _=>False) (Y8 W) W:=by
  refine ⟨rfl,rfl,rfl,rfl,by simp [Y8],fun b hb _=>?_,fun b _ h=>h.elim,fun b hb hlt=>?_,fun b h=>h.elim⟩
  · obtain ⟨o,h1,h2⟩:=hb
    rw [Qgx,h1];simp [h2]
  · have hlt':b < W.heap.size:=by simpa [Y8] using hlt
    rw [Qgx,Array.getElem?_eq_getElem hlt']
    simp only [Option.map_some,Option.some.injEq]
    exact QJs fun h=>hb ⟨_,Array.getElem?_eq_getElem hlt',h⟩
theorem QJy (W:World):NoView (Y8 W):=fun b a u e=>by
  rw [Qgx] at e
  cases h:W.heap[b]? with
  | none=>rw [h] at e;cases e
  | some o =>
    rw [h] at e
    simp only [Option.map_some,Option.some.injEq] at e
    cases o<;>simp [Qca,XJ] at e
theorem Qtg {L:List Value} (W:World):Stepp L W L (Y8 W):=⟨fun {b cs e fz} hb hA=>⟨⟨fz,by rw [Qgx,hb];rfl⟩,hA⟩⟩
theorem QJx {P:Program} (W:World) (g:Goroutine):MI P (fun _=>False) (Qdn W) (Y8 W) #[g] W #[] (fun _=>0):=by
  refine ⟨Qtf W,QJy W,fun b hb=>?_,fun l ad _ _ h=>h,fun l ad _ h=>h.elim,⟨fun said h=>?_,fun i a h=>?_,fun e g h=>?_,rfl,fun op h=>by simp at h⟩,⟨fun i x hi hx=>?_,fun j _=>rfl⟩⟩
  · obtain ⟨o,h,_⟩:=hb
    exact (Array.getElem?_eq_some_iff.1 h).1
  · obtain ⟨i,j,_,⟨a,b,h1,_⟩,_⟩:=h
    simp [Trace.act?] at h1
  · simp [touchAt,Trace.act?] at h
  · simp [Trace.g?] at h
  · rw [Array.getElem?_eq_none (by simp;omega)] at hx;cases hx
theorem Qxb {W W' w':World} {F':Nat→Prop} (he:Ext (Y8 W) w') (hA:Agr F' (fun _=>False) w' W') (hw:Went (Qdn W) W F' W'):Ext W W':=by
  refine ⟨hw.same.2.1,hw.same.1,hw.same.2.2,hw.size,fun b hb _=>?_⟩
  rcases Classical.em (Qdn W b) with h | h
  · rw [hA.own b (hw.more b h) (fun h=>h),he.block b (by simpa [Y8] using hb) (Avoids.nil _)]
    exact ((Qtf W).own b h (fun h=>h)).symm
  · exact hw.keep b hb h
theorem Qra {P:Program}:∀ (N:Nat) (m m':Machine) (t t':Trace),runNT P N m t=(.next m',t')→runN P N m=.next m'
  | 0,m,m',t,t',h=>by simp only [runNT] at h;cases h;rfl
  | N+1,m,m',t,t',h=>by
    simp only [runNT] at h
    simp only [runN,step]
    cases hs:stepT P m with
    | mk s ops =>
      rw [hs] at h
      cases s with
      | next m1=>exact Qra N m1 m' _ t' h
      | ended o w=>simp at h
theorem QJq {P : Program} {f : FuncId} {args : List Value} {W : World} {r : Bool} (h : Qen P f args (Y8 W) (fun v w' => Ext (Y8 W) w' ∧ (.bool r) = v)) :
    ∃ M last o W' t',runNT P (M+1) (solo (G (Frame.enter P f args.toArray .normal) []) W) #[]=(.ended o W',t')∧runN P M (solo (G (Frame.enter P f args.toArray .normal) []) W)=.next last∧step P last=.ended o W' ∧
      Conc.Good P (fun v W'=>v=.bool r∧Ext W W') last o W' t':=by
  obtain ⟨N,gs',W1,sl',t1,h1,Sh',g',F1,w1,q1,h2,h3,h4,h5⟩:=QCb h (Y8 W) (Rel.refl _) (fun _=>False) (Qdn W) #[G (Frame.enter P f args.toArray .normal) []] W none #[] (fun _=>0) (QJx W _) rfl
  obtain ⟨n,last,o,W',t',k1,k2,k3,k4⟩:=QCa (sumTo gs'.size q1) gs' W1 sl' t1 q1 (Nat.le_refl _) h4 h2 h3
  refine ⟨N+n,last,o,W',t',?_,?_,k3,k4.mono fun v hp=>?_⟩
  · have:=Qkk N (n+1) _ _ _ _ h1
    rw [Nat.add_assoc]
    exact this.trans k1
  · rw [runN_add,show runN P N (solo (G (Frame.enter P f args.toArray .normal) []) W)=_ from Qra N _ _ _ _ h1]
    exact k2
  · obtain ⟨F2,w2,⟨p1,p2⟩,p3,p4,p5⟩:=hp
    exact ⟨p2.symm,Qxb p1 p4 (h5.trans p5)⟩
end Go.Gw
