/- Goroutines: goroutine 0 among workers that each send one value: the run gets behind the last receive. No condition. -/
import Derived.Test.YtbplgfhjpeeieaaGwCj14
set_option linter.unusedVariables false
set_option linter.unusedSimpArgs false
set_option linter.unusedSectionVars false
set_option linter.unusedVariables false
namespace Go.Gw
open Go Go.Conc

structure MI (P : Program) (Sh : Loc → Prop) (F : Nat → Prop) (w : World) (gs : Array Goroutine) (W : World) (t : Trace) (q : Nat → Nat) : Prop where
  agr : Agr F (fun _=>False) w W
  nov : NoView w
  bnd : ∀ b,F b → b < W.heap.size
  shun : ∀ ad : Addr,F ad.block → ¬ Sh (.cell ad)
  shlt : ∀ ad : Addr,Sh (.cell ad) → ad.block < W.heap.size
  past : Past Sh W.heap.size t
  lv : Leavers P t gs q
structure Went (F : Nat → Prop) (W : World) (F' : Nat → Prop) (W' : World) : Prop where
  more : ∀ b,F b → F' b
  new : ∀ b,F' b → F b ∨ W.heap.size ≤ b
  keep : ∀ b,b < W.heap.size → ¬ F b → W'.heap[b]? = W.heap[b]?
  size : W.heap.size ≤ W'.heap.size
  same : W'.tape = W.tape ∧ W'.os = W.os ∧ W'.output = W.output

def Reach (P : Program) (Q : Array Goroutine → World → Trace → Prop) (gs : Array Goroutine) (W : World) (sl : Option (Nat × Nat)) (t : Trace) : Prop :=
  ∃ N gs' W' sl' t',runNT P N (crowd gs W sl) t = (.next (crowd gs' W' sl'),t') ∧ Q gs' W' t'
theorem Reach.here {P : Program} {Q : Array Goroutine → World → Trace → Prop} {gs : Array Goroutine} {W : World} {sl : Option (Nat × Nat)} {t : Trace} (h : Q gs W t) : Reach P Q gs W sl t:=⟨0,gs,W,sl,t,rfl,h⟩
theorem Reach.step {P : Program} {Q : Array Goroutine → World → Trace → Prop} {gs gs1 : Array Goroutine} {W W1 : World} {sl sl1 : Option (Nat × Nat)} {t ops : Trace} (h : stepT P (crowd gs W sl) = (.next (crowd gs1 W1 sl1),ops)) (k : Reach P Q gs1 W1 sl1 (t ++ ops)) : Reach P Q gs W sl t:=by
  obtain ⟨N,gs',W',sl',t',h1,h2⟩:=k
  exact ⟨N + 1,gs',W',sl',t',by simp only [runNT,h]; exact h1,h2⟩

open Classical in
noncomputable def thaw (Z : Nat → Prop) (orig : Nat → Option Obj) (w : World) : World:={ w with heap:=w.heap.mapIdx fun b o=>if Z b then (orig b).getD YE else o }
open Classical in
theorem Qek {Z : Nat → Prop} {orig : Nat → Option Obj} {w : World} {b : Nat} : (thaw Z orig w).heap[b]? = (w.heap[b]?).map fun o=>if Z b then (orig b).getD YE else o:=by
  simp [thaw,Array.getElem?_mapIdx]
theorem Qrj {Z : Nat → Prop} {orig : Nat → Option Obj} {w : World} : (thaw Z orig w).heap.size = w.heap.size:=by simp [thaw]
open Classical in
noncomputable def J9 (Z C : Nat → Prop) (w : World) (orig : Nat → Option Obj) : Nat → Option Obj:=fun b=>if Z b then orig b else w.heap[b]?

inductive PW (P : Program) (c : Nat) (S : Goroutine → World → Prop) : (Nat → Prop) → (Nat → Option Obj) → List (Value → World → Prop) → Goroutine → World → Prop
  | done {Z : Nat → Prop} {orig : Nat → Option Obj} {g : Goroutine} {w : World} : g.status = .running → (∀ w1,Rel w w1 → S g (thaw Z orig w1)) → PW P c S Z orig [] g w
  | step {Z : Nat → Prop} {orig : Nat → Option Obj} {O : List (Value → World → Prop)} {g : Goroutine} {w : World} (nx : World → Goroutine × World) : g.status = .running → (∀ w1, Rel w w1 → JP P true Z g w1 (nx w1).1 (nx w1).2) →
      (∀ w1,Rel w w1 → PW P c S Z orig O (nx w1).1 (nx w1).2) → PW P c S Z orig O g w
  | fork {Z : Nat → Prop} {orig : Nat → Option Obj} {O : List (Value → World → Prop)} {g : Goroutine} {w : World} (g' child : Goroutine) (C : Nat → Prop) (φ : Value → World → Prop) : g.status = .running → (∀ W, stepG P true g W = .spawn g' child W #[]) →
      (∀ w1,Rel w w1 → Rows C w1) → (∀ w1,Rel w w1 → Wlk (Jw P fun b=>Z b ∨ C b) (fun g w=>∃ k,Qay P c φ k g w) child (hid (fun b=>Z b ∨ C b) (frz C w1))) →
      (∀ w1,Rel w w1 → PW P c S (fun b=>Z b ∨ C b) (J9 Z C w1 orig) (O ++ [φ]) g' (frz C w1)) → PW P c S Z orig O g w
  | recv {Z : Nat → Prop} {orig : Nat → Option Obj} {O : List (Value → World → Prop)} {g : Goroutine} {w : World} (g2 : Goroutine) (z : Value) : g.status = .running → (∀ W, stepG P true g W = .comm g2 #[rcase c z] true (.recv false) W #[]) → O ≠ [] →
      (∀ O1 φ O2,O = O1 ++ φ :: O2 → ∀ w1 xw w' v,Rel w w1 → φ v xw → Shows xw w' → More w1 w' → (∀ b,b < c → w'.heap[b]? = w1.heap[b]?) → PW P c S Z orig (O1 ++ O2) (Conc.served g2 v) w') → PW P c S Z orig O g w
theorem PW.running {P : Program} {c : Nat} {S : Goroutine → World → Prop} {Z : Nat → Prop} {orig : Nat → Option Obj} {O : List (Value → World → Prop)} {g : Goroutine} {w : World} (h : PW P c S Z orig O g w) : g.status = .running:=by
  cases h <;> assumption

def Fin0 (P : Program) (Sh : Loc → Prop) (S : Goroutine → World → Prop) (Fs : Nat → Prop) (Ws : World) (gs : Array Goroutine) (W : World) (t : Trace) : Prop :=
  ∃ g F w q,gs[0]? = some g ∧ S g w ∧ MI P Sh F w gs W t q ∧ Went Fs Ws F W

section
variable {P : Program} {Sh : Loc → Prop} {c : Nat} {Fs : Nat → Prop} {Ws : World} {mp : Bool} {Z : Nat → Prop} {orig : Nat → Option Obj} {O : List (Value → World → Prop)} {g : Goroutine} {w : World}
variable {vs : Nat → Option View} {ph : Nat → Value → World → Prop} {A : List Nat} {τ : List Tr} {gs : Array Goroutine} {W : World} {t : Trace} {S : Goroutine → World → Prop}

theorem QKj {e g : Nat} (h : Knows t 0 e) (hg : t.g? e = some g) (hne : g ≠ 0) : ∃ j,t.g? j = some 0 ∧ HappensBefore t e j:=by
  obtain ⟨q,z,h1,h2,h3⟩:=h
  rcases h3 with rfl | h3
  · rw [Trace.g?,h1] at hg; simp at hg; rw [h2] at hg; exact absurd hg.symm hne
  · exact ⟨q,by rw [Trace.g?,h1]; simp [h2],h3⟩

theorem Cfg.done (hSh : ∀ ad : Addr,Sh (.cell ad) → ad.block < Ws.heap.size ∧ ¬ Fs ad.block) (h : Cfg P Sh c Fs Ws false Z orig [] g w vs ph A τ gs W t) (hS : S g (thaw Z orig w)) : Fin0 P Sh S Fs Ws gs W t:=by
  obtain ⟨F,h0,hF⟩:=h.main
  have hs0:=(h.pi.seen 0 _ h0).2
  have hA : A = []:=by have:=h.posts; exact List.map_eq_nil_iff.1 this.symm
  have hno : ∀ j,j ≠ 0 → vs j = none:=fun j hj=>by
    cases hv : vs j with
    | none=>rfl
    | some x=>have:=(h.act j).2 ⟨hj,by rw [hv]; rfl⟩; rw [hA] at this; cases this
  have hk0 : ∀ e,(∃ j,(vs j).isSome = true ∧ Knows t j e) → Knows t 0 e:=fun e ⟨j,h1,h2⟩=>by
    by_cases hj : j = 0
    · subst hj; exact h2
    · rw [hno j hj] at h1; cases h1
  have hq : ∀ i : Nat,∃ k,∀ gi,i ≠ 0 → gs[i]? = some gi → QuitsD P k (Deaf t i) gi:=fun i=>by
    by_cases hi : i ≠ 0 ∧ ∃ gi,gs[i]? = some gi
    · obtain ⟨hi0,gi,hgi⟩:=hi
      obtain ⟨r,_,hr⟩:=h.oth i gi hi0 hgi
      rw [hno i hi0] at hr
      obtain ⟨k,_,hk⟩:=hr
      exact ⟨k,fun gi' _ hgi'=>by rw [hgi] at hgi'; cases hgi'; exact hk⟩
    · exact ⟨0,fun gi hi0 hgi=>absurd ⟨hi0,gi,hgi⟩ hi⟩
  refine ⟨g,F,_,fun i=>Classical.choose (hq i),h.g0,hS,⟨?_,?_,hs0.bnd,fun ad had hsh=>?_,fun ad hsh=>Nat.lt_of_lt_of_le (hSh ad hsh).1 h.size,⟨h.pi.clean,fun e a ha hm=>?_,fun e g hge hne hc=>?_,hs0.deaf,h.pi.low⟩,⟨fun i gi hi hgi=>Classical.choose_spec (hq i) gi (by omega) hgi,h.pi.above⟩⟩,⟨hF,fun b hb=>h.bas 0 _ h0 b hb,h.keep,h.size,h.same⟩⟩
  · refine ⟨hs0.agr.tape,hs0.agr.drawn,hs0.agr.os,hs0.agr.output,by rw [Qrj]; exact hs0.agr.size,fun b hb _=>?_,fun b _ h=>h.elim,fun b hb hlt=>?_,fun b h=>h.elim⟩
    · have hlt:=hs0.bnd b hb
      have hlt' : b < w.heap.size:=by rw [← hs0.agr.size]; exact hlt
      rw [Qek]
      by_cases hz : Z b
      · rw [Array.getElem?_eq_getElem hlt']
        simp only [Option.map_some,if_pos hz]
        have:=h.orig b hz
        rw [Array.getElem?_eq_getElem hlt] at this
        rw [Array.getElem?_eq_getElem hlt,← this]; rfl
      · rw [hs0.agr.own b hb hz]; simp [hz]
    · rw [Qrj] at hlt
      have hz : ¬ Z b:=fun hz=>hb (hs0.agr.zf b hz)
      rw [Qek,hs0.agr.hid b hb hlt]
      simp [hz]
  · intro b a u e
    rw [Qek] at e
    cases hb : w.heap[b]? with
    | none=>rw [hb] at e; cases e
    | some o =>
      rw [hb] at e
      simp only [Option.map_some,Option.some.injEq] at e
      by_cases hz : Z b
      · rw [if_pos hz] at e
        obtain ⟨cs,e1,fz,h1,h2⟩:=hs0.agr.shr b (hs0.agr.zf b hz) hz
        rw [← h.orig b hz,h2] at e; cases e
      · rw [if_neg hz] at e; subst e; exact hs0.nov b a u hb
  · obtain ⟨h1,h2⟩:=hSh ad hsh
    rcases h.bas 0 _ h0 ad.block had with h3 | h3
    · exact h2 h3
    · omega
  · rcases h.pi.known e a ha hm with h4 | h4 | h4
    · exact .inl h4
    · exact .inr h4
    · exact .inl (hk0 e h4)
  · rcases h.pi.over e g hge hne hc with h4 | h4
    · exact h4
    · exact QKj (hk0 e h4) hge hne

theorem Cfg.own (h : Cfg P Sh c Fs Ws false Z orig O g w vs ph A τ gs W t) {g' : Goroutine} {w' : World} (hv : JP P true Z g w g' w') (hr : g'.status = .running) (sl : Option (Nat × Nat)) :
    ∃ (ops : Trace) (gs' : Array Goroutine) (W' : World) (vs' : Nat → Option View),runT P (crowd gs W sl) 0 = (.next (crowd gs' W' sl),ops) ∧ Cfg P Sh c Fs Ws false Z orig O g' w' vs' ph A τ gs' W' (t ++ ops):=by
  obtain ⟨F,h0,hF⟩:=h.main
  have hs0:=(h.pi.seen 0 _ h0).2
  obtain ⟨s,hs⟩:=h.pi.chan
  obtain ⟨hnv,hstep⟩:=hv hs0.nov
  obtain ⟨F',W',es,hgo,hat,hes⟩:=hstep F W hs0.agr
  have hcl:=h.pi.chan_lt
  have hlt : 0 < gs.size:=(Array.getElem?_eq_some_iff.1 h.g0).1
  have hs' : W'.heap[c]? = some (.chan 0 #[] false s s false):=by rw [hat.keep c hcl (.inl hs0.chan)]; exact hs
  have hrun:=runT_crowd_go (P:=P) (sl:=sl) (i:=0) h.g0 (show stepG P (0 == 0) g W = _ from hgo)
  rw [h.places.woken hs'] at hrun
  have hpi:=h.pi.step h0 hat hnv hes g.frame.fn g.frame.place
  have hg : ∀ op ∈ MemOp.ofEvents 0 g.frame.fn g.frame.place es,op.g = 0:=fun op hop=>by obtain ⟨e,_,rfl⟩:=Conc.mem_ofEvents hop; rfl
  refine ⟨_,_,_,Qac vs 0 (some ⟨fun b=>F' b ∧ b < W'.heap.size,Z,w'⟩) W',hrun,?_⟩
  refine ⟨by rw [Array.size_setIfInBounds]; exact hpi,⟨fun b=>F' b ∧ b < W'.heap.size,by rw [Jo],fun b hb=>⟨hat.more b (hF b hb),Nat.lt_of_lt_of_le (hs0.bnd b (hF b hb)) hat.size⟩⟩,by simp [hlt],by simpa using hr,by simp [h.len],h.nod,fun j=>?_,h.posts,fun j gj hj hgj=>?_,fun b hb=>?_,fun j y hy b hb=>?_,Nat.le_trans h.size hat.size,fun b hb hn=>?_,
    ⟨hat.same.1.trans h.same.1,hat.same.2.1.trans h.same.2.1,hat.same.2.2.trans h.same.2.2⟩⟩
  · rw [h.act j]
    by_cases hj : j = 0
    · simp [hj]
    · rw [Z6 hj]; simp
  · rw [Array.getElem?_setIfInBounds_ne (Ne.symm hj)] at hgj
    rw [Deaf_other t (Ne.symm hj) _ hg,Z6 hj]
    obtain ⟨r2,h1,h2⟩:=h.oth j gj hj hgj
    exact ⟨r2,h1,h2.grown _ fun y=>⟨rfl,Qdr⟩⟩
  · rw [hat.keep b (hs0.bnd b (hs0.agr.zf b hb)) (.inr hb)]
    exact h.orig b hb
  · by_cases hj : j = 0
    · subst hj
      rw [Jo] at hy; cases hy
      rcases hat.new b hb.1 with h1 | h1
      · exact h.bas 0 _ h0 b h1
      · exact .inr (Nat.le_trans h.size h1.1)
    · rw [Z6 hj] at hy
      obtain ⟨y0,hy0,rfl⟩:=Option.map_eq_some_iff.1 hy
      exact h.bas j y0 hy0 b hb
  · rw [hat.keep b (Nat.lt_of_lt_of_le hb h.size) (.inl fun hxb => by
      rcases h.bas 0 _ h0 b hxb with h1 | h1
      · exact hn h1
      · omega)]
    exact h.keep b hb hn

theorem Cfg.fork (h : Cfg P Sh c Fs Ws false Z orig O g w vs ph A τ gs W t) {g' child : Goroutine} {C : Nat → Prop} {φ : Value → World → Prop} (hst : ∀ W, stepG P true g W = .spawn g' child W #[]) (hC : Rows C w)
    (hw : Wlk (Jw P fun b=>Z b ∨ C b) (fun g w=>∃ k,Qay P c φ k g w) child (hid (fun b=>Z b ∨ C b) (Gw.frz C w))) (hr : g'.status = .running) (sl : Option (Nat × Nat)) :
    ∃ (ops : Trace) (gs' : Array Goroutine) (vs' : Nat → Option View) (ph' : Nat → Value → World → Prop) (A' : List Nat) (τ' : List Tr),runT P (crowd gs W sl) 0 = (.next (crowd gs' W sl),ops) ∧
      Cfg P Sh c Fs Ws false (fun b=>Z b ∨ C b) (J9 Z C w orig) (O ++ [φ]) g' (Gw.frz C w) vs' ph' A' τ' gs' W (t ++ ops):=by
  obtain ⟨F,h0,hF⟩:=h.main
  have hs0:=(h.pi.seen 0 _ h0).2
  have hlt : 0 < gs.size:=(Array.getElem?_eq_some_iff.1 h.g0).1
  obtain ⟨τc,hτc⟩:=WT.of (fun _ _ _ h=>h.1) hw
  have hCF : ∀ b,C b → F b:=fun b hb=>Classical.byContradiction fun hn=>by
    obtain ⟨cs,e,fz,h1⟩:=hC b hb
    rw [hs0.agr.hid b hn (Array.getElem?_eq_some_iff.1 h1).1] at h1; cases h1
  have hrun:=runT_crowd_spawn (P:=P) (sl:=sl) (i:=0) h.g0 (show stepG P (0 == 0) g W = _ from hst W)
  have hpi:=h.pi.fork h0 hCF hC g.frame.fn child.frame.fn g.frame.place g.frame.place
  have et : t ++ ((MemOp.ofEvents 0 g.frame.fn g.frame.place #[]).push { g := 0, fn := g.frame.fn, pos := g.frame.place, act := .go gs.size } |>.push { g := gs.size, fn := child.frame.fn, pos := g.frame.place, act := .start }) =
      t ++ #[{ g:=0,fn:=g.frame.fn,pos:=g.frame.place,act:=.go gs.size }] ++ #[{ g:=gs.size,fn:=child.frame.fn,pos:=g.frame.place,act:=.start }]:=by
    rw [Qdw,Array.append_assoc]; rfl
  refine ⟨_,_,(fun j=>if j = 0 then some ⟨F,fun b=>Z b ∨ C b,Gw.frz C w⟩ else if j = gs.size then some ⟨fun b=>Z b ∨ C b,fun b=>Z b ∨ C b,hid (fun b=>Z b ∨ C b) (Gw.frz C w)⟩ else vs j),fun j=>if j = gs.size then φ else ph j,A ++ [gs.size],τ ++ [τc],hrun,?_⟩
  have hAn : gs.size ∉ A:=fun hm=>by
    obtain ⟨_,h2⟩:=(h.act _).1 hm
    cases hv : vs gs.size with
    | none=>rw [hv] at h2; cases h2
    | some x=>have:=(h.pi.seen _ x hv).1; omega
  rw [et]
  have hsz : ((gs.setIfInBounds 0 g').push child).size = gs.size + 1:=by simp
  refine ⟨by rw [hsz]; exact hpi,⟨F,by simp,hF⟩,?_,by simpa using hr,by simp [h.len],?_,fun j=>?_,?_,fun j gj hj hgj=>?_,fun b hb=>?_,fun j y hy b hb=>?_,h.size,h.keep,h.same⟩
  · rw [Array.getElem?_push,if_neg (by simp; omega)]; simp [hlt]
  · refine List.nodup_append.2 ⟨h.nod,by simp,fun a ha b hb e=>?_⟩
    have : b = gs.size:=by simpa using hb
    subst e; subst this; exact hAn ha
  · rw [List.mem_append,h.act j]
    by_cases hj : j = 0
    · subst hj
      have : gs.size ≠ 0:=by omega
      simp [this.symm]
    · by_cases hjn : j = gs.size
      · subst hjn; simp [hj]
      · simp [hj,hjn]
  · rw [List.map_append]
    congr 1
    · rw [h.posts]
      apply List.map_congr_left
      intro a ha
      have : a ≠ gs.size:=fun e=>hAn (e ▸ ha)
      simp [this]
    · simp
  · rw [Array.getElem?_push] at hgj
    by_cases hjn : j = gs.size
    · subst hjn
      rw [if_pos (by simp)] at hgj
      cases hgj
      refine ⟨τc,by rw [← h.len]; simp,?_⟩
      rw [if_neg hj,if_pos rfl]
      simp only [if_true]
      exact .inl hτc
    · rw [if_neg (by simpa using hjn),Array.getElem?_setIfInBounds_ne (Ne.symm hj)] at hgj
      obtain ⟨r,h1,h2⟩:=h.oth j gj hj hgj
      have hjl : j < τ.length:=(List.getElem?_eq_some_iff.1 h1).1
      refine ⟨r,by rw [List.getElem?_append_left hjl]; exact h1,?_⟩
      rw [if_neg hj,if_neg hjn,ZZ (Qik ..),ZZ (Qfa ..)]
      simp only [hjn,if_false]
      exact h2
  · unfold J9
    by_cases hz : Z b
    · rw [if_pos hz]; exact h.orig b hz
    · rw [if_neg hz]; exact hs0.agr.own b (hCF b (hb.resolve_left hz)) hz
  · by_cases hj : j = 0
    · rw [if_pos hj] at hy; cases hy; exact h.bas 0 _ h0 b hb
    · rw [if_neg hj] at hy
      by_cases hjn : j = gs.size
      · rw [if_pos hjn] at hy; cases hy
        exact h.bas 0 _ h0 b (hb.elim (hs0.agr.zf b) (hCF b))
      · rw [if_neg hjn] at hy; exact h.bas j y hy b hb
end
end Go.Gw
