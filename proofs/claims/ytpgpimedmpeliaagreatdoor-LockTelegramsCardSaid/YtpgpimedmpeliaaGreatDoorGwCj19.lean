/- Goroutines: the judgement of goroutine 0; what a walk of it comes to. No condition. -/
import Derived.Test.YtpgpimedmpeliaaGreatDoorGwCj18
import Derived.Conc.LeavingOf
set_option linter.unusedVariables false
set_option linter.unusedSimpArgs false
set_option linter.unusedSectionVars false
set_option linter.unusedVariables false
namespace Go.Gw
open Go Go.Conc
open Go.ConcN (sumTo upd sumTo_upd upd_ne upd_same)

def Jm (P:Program):Jd P:=⟨true,fun _=>False,fun g w S=>∀ Sh F gs W sl t q,MI P Sh F w gs W t q→gs[0]?=some g→Reach P (fun gs' W' t'=>∃ Sh',Fin0 P Sh' S F W gs' W' t') gs W sl t⟩

section
variable {P:Program} {Sh:Loc→Prop} {F F':Nat→Prop} {w w':World} {gs:Array Goroutine} {W W' W2:World} {t:Trace} {q:Nat→Nat} {g:Goroutine} {S:Goroutine→World→Prop}

theorem Qkk:∀ (N M:Nat) (m m':Machine) (t t':Trace),runNT P N m t=(.next m',t')→runNT P (N+M) m t=runNT P M m' t'
  | 0,M,m,m',t,t',h=>by simp only [runNT] at h;cases h;rw [Nat.zero_add]
  | N+1,M,m,m',t,t',h=>by
    rw [Nat.succ_add]
    simp only [runNT] at h ⊢
    cases hs:stepT P m with
    | mk s ops =>
      rw [hs] at h
      cases s with
      | next m1=>exact Qkk N M m1 m' _ t' h
      | ended o w=>simp at h
theorem Reach.bind {Q Q':Array Goroutine→World→Trace→Prop} {sl:Option (Nat×Nat)} (h:Reach P Q gs W sl t) (k:∀ gs' W' sl' t',Q gs' W' t'→Reach P Q' gs' W' sl' t'):Reach P Q' gs W sl t:=by
  obtain ⟨N,gs',W',sl',t',h1,h2⟩:=h
  obtain ⟨M,gs2,W2,sl2,t2,h3,h4⟩:=k gs' W' sl' t' h2
  exact ⟨N+M,gs2,W2,sl2,t2,by rw [Qkk N M _ _ _ _ h1];exact h3,h4⟩
theorem Fin0.back {Fs F2:Nat→Prop} {Ws:World} {gs':Array Goroutine} {t':Trace} (h:Fin0 P Sh S F2 W2 gs' W' t') (k:Went Fs Ws F2 W2):Fin0 P Sh S Fs Ws gs' W' t':=by
  obtain ⟨g,F,w,q,h1,h2,h3,h4⟩:=h
  exact ⟨g,F,w,q,h1,h2,h3,k.trans h4⟩
theorem Reach.mono {Q Q':Array Goroutine→World→Trace→Prop} {sl:Option (Nat×Nat)} (h:Reach P Q gs W sl t) (k:∀ gs' W' t',Q gs' W' t'→Q' gs' W' t'):Reach P Q' gs W sl t:=by
  obtain ⟨N,gs',W',sl',t',h1,h2⟩:=h
  exact ⟨N,gs',W',sl',t',h1,k _ _ _ h2⟩

theorem QCb (h:Wlk (Jm P) S g w):∀ w1,Rel w w1→∀ Sh F gs W sl t q,MI P Sh F w1 gs W t q→gs[0]?=some g→Reach P (fun gs' W' t'=>∃ Sh',Fin0 P Sh' S F W gs' W' t') gs W sl t:=by
  induction h with
  | @stop g w hS =>
    intro w1 hr Sh F gs W sl t q h h0
    exact Reach.here ⟨Sh,g,F,w1,q,h0,hS w1 hr,h,Went.refl _ _⟩
  | @step g w nx hrun hv hn ih =>
    intro w1 hr Sh F gs W sl t q h h0
    have key:∀ N w1,Rel w w1→∀ gs W sl t q,sumTo gs.size q≤N→MI P Sh F w1 gs W t q→gs[0]?=some g→Reach P (fun gs' W' t'=>∃ Sh',Fin0 P Sh' S F W gs' W' t') gs W sl t:=by
      intro N
      induction N with
      | zero =>
        intro w1 hr gs W sl t q hN h h0
        obtain ⟨i,gi,d,sl',hi,hri,hst⟩:=crowd_pick (P:=P) (w:=W) (sl:=sl) (h.awake h0 hrun) ⟨0,g,h0,hrun⟩
        by_cases hi0:i=0
        · subst hi0
          have hr2:=hr.trans (Zh w1 d)
          obtain ⟨ops,gs',W',F',h1,h2,h3,h4⟩:=(h.at d).own h0 hrun (hv _ hr2) sl'
          refine Reach.step (hst.trans h1) ((ih _ hr2 _ (Rel.refl _) Sh F' gs' W' sl' _ q h3 h2).mono fun gs2 W2 t2 ⟨Sh',h5⟩=>⟨Sh',h5.back ((Went.at F W d).trans h4)⟩)
        · obtain ⟨ops,gs',q',h1,h2,h3,h4⟩:=(h.at d).slip h0 hrun hi hi0 hri sl'
          omega
      | succ N ihN =>
        intro w1 hr gs W sl t q hN h h0
        obtain ⟨i,gi,d,sl',hi,hri,hst⟩:=crowd_pick (P:=P) (w:=W) (sl:=sl) (h.awake h0 hrun) ⟨0,g,h0,hrun⟩
        have hr2:=hr.trans (Zh w1 d)
        by_cases hi0:i=0
        · subst hi0
          obtain ⟨ops,gs',W',F',h1,h2,h3,h4⟩:=(h.at d).own h0 hrun (hv _ hr2) sl'
          refine Reach.step (hst.trans h1) ((ih _ hr2 _ (Rel.refl _) Sh F' gs' W' sl' _ q h3 h2).mono fun gs2 W2 t2 ⟨Sh',h5⟩=>⟨Sh',h5.back ((Went.at F W d).trans h4)⟩)
        · obtain ⟨ops,gs',q',h1,h2,h3,h4⟩:=(h.at d).slip h0 hrun hi hi0 hri sl'
          exact Reach.step (hst.trans h1) ((ihN _ hr2 gs' (W.at d) sl' _ q' (by omega) h4 h2).mono fun gs2 W2 t2 ⟨Sh',h5⟩=>⟨Sh',h5.back (Went.at F W d)⟩)
    exact key _ w1 hr gs W sl t q (Nat.le_refl _) h h0
  | @phase g w S' hrun hp hn ih =>
    intro w1 hr Sh F gs W sl t q h h0
    refine (hp w1 hr Sh F gs W sl t q h h0).bind fun gs' W' sl' t' ⟨Sh',g',F',w',q',h1,h2,h3,h4⟩=>?_
    exact (ih g' w' h2 w' (Rel.refl _) Sh' F' gs' W' sl' t' q' h3 h1).mono fun gs2 W2 t2 ⟨Sh2,h5⟩=>⟨Sh2,h5.back h4⟩

/-! ### The return -/
def Qeo (P:Program) (Post:Value→World→Prop) (g:Goroutine) (w:World):Prop :=
  g.status=.running∧∃ v,Post v w∧∀ F W,NoView w→Agr F (fun _=>False) w W→∃ es,stepG P true g W=.ended (.done v) W es∧∀ e∈es,EvOk F (fun _=>False) e
theorem Qpd {Post : Value → World → Prop} {sl : Option (Nat × Nat)} (h : MI P Sh F w gs W t q) (h0 : gs[0]? = some g) (hE : ∀ w1, Rel w w1 → Qeo P Post g w1)
    (slip:∀ (i:Nat) (gi:Goroutine) (d:Nat) (sl':Option (Nat×Nat)),gs[i]?=some gi→gi.status=.running→i≠0→∃ (ops:Trace) (gs':Array Goroutine),runT P (crowd gs (W.at d) sl') i=(.next (crowd gs' (W.at d) sl'),ops) ∧
      ∃ n last o W' t',runNT P (n+1) (crowd gs' (W.at d) sl') (t++ops)=(.ended o W',t')∧runN P n (crowd gs' (W.at d) sl')=.next last∧step P last=.ended o W'∧Conc.Good P (fun v W'=>∃ F' w',Post v w'∧NoView w'∧Agr F' (fun _=>False) w' W'∧Went F W F' W') last o W' t') :
    ∃ n last o W' t',runNT P (n+1) (crowd gs W sl) t=(.ended o W',t')∧runN P n (crowd gs W sl)=.next last∧step P last=.ended o W'∧Conc.Good P (fun v W'=>∃ F' w',Post v w'∧NoView w'∧Agr F' (fun _=>False) w' W'∧Went F W F' W') last o W' t':=by
  have hrun:=(hE w (Rel.refl w)).1
  obtain ⟨i,gi,d,sl',hi,hri,hst⟩:=crowd_pick (P:=P) (w:=W) (sl:=sl) (h.awake h0 hrun) ⟨0,g,h0,hrun⟩
  by_cases hi0:i=0
  · subst hi0
    obtain ⟨_,v,hpost,hend⟩:=hE (w.at d) (Zh w d)
    have h':=h.at d
    obtain ⟨es,he,hes⟩:=hend F (W.at d) h'.nov h'.agr
    have hrunT:=runT_many_ended (P:=P) (sl:=sl') (i:=0) h0 (show stepG P (0 == 0) g (W.at d)=_ from he)
    have hev:∀ e∈es,EvL Sh (W.at d).heap.size e:=fun e hee=>by
      refine ⟨fun x hx hs=>?_,(Qbd (hes e hee)).1,(Qbd (hes e hee)).2,Qil (hes e hee) h'.bnd⟩
      obtain ⟨ad,h1,h2,_⟩:=Qim (hes e hee) hx
      exact absurd hs (h.shun _ ad h1 h2)
    have hP':=h'.past.own (fn:=g.frame.fn) (pos:=g.frame.place) hev
    have hstep:stepT P (crowd gs W sl)=(.ended (.done v) (W.at d),MemOp.ofEvents 0 g.frame.fn g.frame.place es):=hst.trans hrunT
    refine ⟨0,crowd gs W sl,.done v,W.at d,_,by simp only [runNT,hstep],rfl,by simp [step,hstep],v,rfl,⟨F,w.at d,hpost,h'.nov,h'.agr,Went.at F W d⟩,hP'.clean,hP'.over,⟨fun x hx=>?_,rfl⟩,fun j x hx hj=>?_⟩
    · obtain ⟨j,hj⟩:=List.mem_iff_getElem?.1 hx
      rw [List.getElem?_drop] at hj
      exact ⟨_,(h.lv.old (1+j) x (by omega) (by simpa [crowd] using hj)).leaves⟩
    · have hq:=h.lv.old j x (by omega) hx
      refine ⟨q j,?_⟩
      have e:(t++MemOp.ofEvents 0 g.frame.fn g.frame.place es).deaf j (t++MemOp.ofEvents 0 g.frame.fn g.frame.place es).size=Deaf t j :=
        Deaf_other t (g:=j) (g':=0) (by omega) _ (fun op hop=>by obtain ⟨e,_,rfl⟩:=Conc.mem_ofEvents hop;rfl)
      rw [e]
      exact hq.hears _
  · obtain ⟨ops,gs',h1,n,last,o,W',t',k1,k2,k3,k4⟩:=slip i gi d sl' hi hri hi0
    have hs:=hst.trans h1
    exact ⟨n+1,last,o,W',t',by rw [runNT_succ_next hs];exact k1,by rw [runN_succ_next hs];exact k2,k3,k4⟩
theorem QCa {Post : Value → World → Prop} : ∀ N gs W sl t q, sumTo gs.size q ≤ N → MI P Sh F w gs W t q → gs[0]? = some g → (∀ w1, Rel w w1 → Qeo P Post g w1) →
    ∃ n last o W' t',runNT P (n+1) (crowd gs W sl) t=(.ended o W',t')∧runN P n (crowd gs W sl)=.next last∧step P last=.ended o W'∧Conc.Good P (fun v W'=>∃ F' w',Post v w'∧NoView w'∧Agr F' (fun _=>False) w' W'∧Went F W F' W') last o W' t':=by
  intro N
  induction N generalizing w with
  | zero =>
    intro gs W sl t q hN h h0 hE
    exact Qpd (q:=q) h h0 hE (fun i gi d sl' hi hri hi0=>by
      obtain ⟨ops,gs',q',h1,h2,h3,h4⟩:=(h.at d).slip h0 (hE w (Rel.refl w)).1 hi hi0 hri sl'
      omega)
  | succ N ih =>
    intro gs W sl t q hN h h0 hE
    refine Qpd (q:=q) h h0 hE (fun i gi d sl' hi hri hi0=>?_)
    obtain ⟨ops,gs',q',h1,h2,h3,h4⟩:=(h.at d).slip h0 (hE w (Rel.refl w)).1 hi hi0 hri sl'
    obtain ⟨n,last,o,W',t',k1,k2,k3,k4⟩:=ih gs' (W.at d) sl' (t++ops) q' (by omega) h4 h2 (fun w1 hr=>hE w1 ((Zh w d).trans hr))
    exact ⟨ops,gs',h1,n,last,o,W',t',k1,k2,k3,k4.mono fun v hp=>by
      obtain ⟨F',w',p1,p2,p3,p4⟩:=hp
      exact ⟨F',w',p1,p2,p3,(Went.at F W d).trans p4⟩⟩
end
end Go.Gw
