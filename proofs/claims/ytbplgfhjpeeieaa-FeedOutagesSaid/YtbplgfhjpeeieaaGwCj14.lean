/- Goroutines: the others' steps. No condition. -/
import Derived.Test.YtbplgfhjpeeieaaGwCj13
set_option linter.unusedVariables false
set_option linter.unusedSimpArgs false
set_option linter.unusedSectionVars false
set_option linter.unusedVariables false
namespace Go.Gw
open Go Go.Conc

def Role (P : Program) (c : Nat) (mp : Bool) (v : Option View) (φ : Value → World → Prop) (d : Nat) (r : Tr) (g : Goroutine) : Prop :=
  match v with
  | none=>∃ k,r = nt k ∧ QuitsD P k d g
  | some x=>WT P x.Z (Qay P c φ) r g x.w ∨ (mp = false ∧ ∃ k g2 v z,g = parked g2 #[scase c v z] .send ∧ QuitsD P k 0 (Conc.served g2 undef) ∧ ∀ w1,Rel x.w w1 → φ v w1)

structure Cfg (P : Program) (Sh : Loc → Prop) (c : Nat) (Fs : Nat → Prop) (Ws : World) (mp : Bool) (Z : Nat → Prop) (orig : Nat → Option Obj) (O : List (Value → World → Prop)) (g : Goroutine) (w : World)
    (vs : Nat → Option View) (ph : Nat → Value → World → Prop) (A : List Nat) (τ : List Tr) (gs : Array Goroutine) (W : World) (t : Trace) : Prop where
  pi : PI Sh c vs gs.size W t
  main : ∃ F,vs 0 = some ⟨F,Z,w⟩ ∧ ∀ b,Fs b → F b
  g0 : gs[0]? = some g
  pl0 : if mp then ∃ g2 z,g = parked g2 #[rcase c z] (.recv false) else g.status = .running
  len : τ.length = gs.size
  nod : A.Nodup
  act : ∀ i,i ∈ A ↔ i ≠ 0 ∧ (vs i).isSome = true
  posts : O = A.map ph
  oth : ∀ i gi,i ≠ 0 → gs[i]? = some gi → ∃ r,τ[i]? = some r ∧ Role P c mp (vs i) (ph i) (Deaf t i) r gi
  orig : ∀ b,Z b → W.heap[b]? = orig b
  bas : ∀ i x,vs i = some x → ∀ b,x.F b → Fs b ∨ Ws.heap.size ≤ b
  size : Ws.heap.size ≤ W.heap.size
  keep : ∀ b,b < Ws.heap.size → ¬ Fs b → W.heap[b]? = Ws.heap[b]?
  same : W.tape = Ws.tape ∧ W.os = Ws.os ∧ W.output = Ws.output

section
variable {P : Program} {Sh : Loc → Prop} {c : Nat} {Fs : Nat → Prop} {Ws : World} {mp : Bool} {Z : Nat → Prop} {orig : Nat → Option Obj} {O : List (Value → World → Prop)} {g : Goroutine} {w : World}
variable {vs : Nat → Option View} {ph : Nat → Value → World → Prop} {A : List Nat} {τ : List Tr} {gs : Array Goroutine} {W : World} {t : Trace}

theorem Role.grown {v : Option View} {φ : Value → World → Prop} {d : Nat} {r : Tr} {g : Goroutine} (h : Role P c mp v φ d r g) (f : View → View) (hf : ∀ x,(f x).Z = x.Z ∧ Rel x.w (f x).w) : Role P c mp (v.map f) φ d r g:=by
  cases v with
  | none=>exact h
  | some x =>
    obtain ⟨h1,h2⟩:=hf x
    rcases h with h | ⟨hm,k,g2,u,z,h3,h4,h5⟩
    · left; rw [h1]; exact h.rely h2
    · exact .inr ⟨hm,k,g2,u,z,h3,h4,fun w1 r=>h5 w1 (h2.trans r)⟩
theorem Role.place {v : Option View} {φ : Value → World → Prop} {d : Nat} {r : Tr} {g : Goroutine} (h : Role P c mp v φ d r g) : g.status = .running ∨ g.status = .finished ∨ (∃ g2 v z,g = parked g2 #[scase c v z] .send):=by
  cases v with
  | none =>
    obtain ⟨k,_,hq⟩:=h
    rcases hq.status with h1 | h1
    · exact .inl h1
    · exact .inr (.inl h1)
  | some x =>
    rcases h with h | ⟨hm,k,g2,u,z,h3,h4,h5⟩
    · exact .inl h.running
    · exact .inr (.inr ⟨g2,u,z,h3⟩)
theorem Cfg.places (h : Cfg P Sh c Fs Ws mp Z orig O g w vs ph A τ gs W t) : Places c gs:=fun i gi hi=>by
  by_cases hi0 : i = 0
  · subst hi0
    rw [h.g0] at hi; cases hi
    have:=h.pl0
    cases mp with
    | true=>exact .inr (.inr (.inr (by simpa using this)))
    | false=>exact .inl (by simpa using this)
  · obtain ⟨r,_,hr⟩:=h.oth i gi hi0 hi
    rcases hr.place with h1 | h1 | h1
    · exact .inl h1
    · exact .inr (.inl h1)
    · exact .inr (.inr (.inl h1))

theorem Cfg.at (h : Cfg P Sh c Fs Ws mp Z orig O g w vs ph A τ gs W t) (d : Nat) : Cfg P Sh c Fs Ws mp Z orig O g (w.at d) (Qao vs d) ph A τ gs (W.at d) t:=by
  obtain ⟨F,h0,hF⟩:=h.main
  refine ⟨h.pi.at d,⟨F,by simp [Qao,h0],hF⟩,h.g0,h.pl0,h.len,h.nod,fun i=>by rw [Qnf]; exact h.act i,h.posts,fun i gi hi hg=>?_,h.orig,fun i x hx b hb=>?_,h.size,h.keep,h.same⟩
  · obtain ⟨r,h1,h2⟩:=h.oth i gi hi hg
    exact ⟨r,h1,h2.grown _ fun x=>⟨rfl,Y5 _ d⟩⟩
  · obtain ⟨y,hy,rfl⟩:=Option.map_eq_some_iff.1 hx
    exact h.bas i y hy b hb

theorem Cfg.pick (h : Cfg P Sh c Fs Ws mp Z orig O g w vs ph A τ gs W t) (hr : ∃ (i : Nat) (gi : Goroutine), gs[i]? = some gi ∧ gi.status = .running) (sl : Option (Nat × Nat)) :
    ∃ (i : Nat) (gi : Goroutine) (d : Nat) (sl' : Option (Nat × Nat)),gs[i]? = some gi ∧ gi.status = .running ∧ stepT P (crowd gs W sl) = runT P (crowd gs (W.at d) sl') i ∧ Cfg P Sh c Fs Ws mp Z orig O g (w.at d) (Qao vs d) ph A τ gs (W.at d) t:=by
  obtain ⟨i,gi,d,sl',h1,h2,h3⟩:=crowd_pick (P:=P) (w:=W) (sl:=sl) h.places.awake hr
  exact ⟨i,gi,d,sl',h1,h2,h3,h.at d⟩

theorem Qdw (i : Nat) (fn : FuncId) (pos : String) : MemOp.ofEvents i fn pos #[] = #[]:=rfl

theorem Cfg.other (h : Cfg P Sh c Fs Ws mp Z orig O g w vs ph A τ gs W t) {i : Nat} {gi : Goroutine} (hi : gs[i]? = some gi) (hi0 : i ≠ 0) (hr : gi.status = .running) (sl : Option (Nat × Nat)) :
    (∃ (ops : Trace) (gs' : Array Goroutine) (W' : World) (vs' : Nat → Option View) (τ' : List Tr) (w' : World),runT P (crowd gs W sl) i = (.next (crowd gs' W' sl),ops) ∧ Qhr τ' τ ∧ Rel w w' ∧ Cfg P Sh c Fs Ws mp Z orig O g w' vs' ph A τ' gs' W' (t ++ ops)) ∨
    (mp = true ∧ ∃ x k,vs i = some x ∧ Qay P c (ph i) k gi x.w):=by
  obtain ⟨r,hτ,hrole⟩:=h.oth i gi hi0 hi
  obtain ⟨hlt,_⟩:=Array.getElem?_eq_some_iff.1 hi
  have hb0 : (i == 0) = false:=by simp [hi0]
  obtain ⟨s,hs⟩:=h.pi.chan
  obtain ⟨F,h0,hF⟩:=h.main
  have hset : ∀ (g' : Goroutine) (j : Nat),j ≠ i → (gs.setIfInBounds i g')[j]? = gs[j]?:=fun g' j hj=>Array.getElem?_setIfInBounds_ne (Ne.symm hj)
  have hself : ∀ g' : Goroutine,(gs.setIfInBounds i g')[i]? = some g':=fun g'=>by simp [hlt]
  have hτne : ∀ (y : Tr) (j : Nat),j ≠ i → (τ.set i y)[j]? = τ[j]?:=fun y j hj=>List.getElem?_set_ne (Ne.symm hj)
  have hτs : ∀ y : Tr,(τ.set i y)[i]? = some y:=fun y=>by
    have : i < τ.length:=by rw [h.len]; exact hlt
    rw [List.getElem?_set_self this]
  cases hv : vs i with
  | none =>
    -- a leaver slips
    rw [hv] at hrole
    obtain ⟨k,rfl,hq⟩:=hrole
    cases k with
    | zero=>rw [hq.1] at hr; cases hr
    | succ k =>
      rcases hq with ⟨hf,_⟩ | ⟨_,g',es,hm,hstp,hq'⟩
      · rw [hf] at hr; cases hr
      left
      have hrun:=runT_crowd_go (P:=P) (sl:=sl) (i:=i) hi (by rw [hb0]; exact hstp W)
      rw [h.places.woken hs] at hrun
      have hg : ∀ op ∈ MemOp.ofEvents i gi.frame.fn gi.frame.place es,op.g = i:=fun op hop=>by obtain ⟨e,_,rfl⟩:=Conc.mem_ofEvents hop; rfl
      refine ⟨_,_,_,vs,τ.set i (nt k),w,hrun,⟨i,_,_,hτ,QNt k,rfl⟩,Rel.refl w,?_⟩
      refine ⟨?_,h.main,by rw [hset g' 0 (Ne.symm hi0)]; exact h.g0,h.pl0,by simp [h.len],h.nod,h.act,h.posts,fun j gj hj hgj=>?_,h.orig,h.bas,h.size,h.keep,h.same⟩
      · rw [Array.size_setIfInBounds]; exact h.pi.mute hv hi0 hlt hm _ _
      · by_cases hji : j = i
        · subst hji
          rw [hself] at hgj; cases hgj
          refine ⟨nt k,hτs _,?_⟩
          rw [hv,Deaf_own]
          exact ⟨k,rfl,hq'⟩
        · rw [hset g' j hji] at hgj
          rw [hτne _ j hji,Deaf_other t (Ne.symm hji) _ hg]
          exact h.oth j gj hj hgj
  | some x =>
    rw [hv] at hrole
    rcases hrole with hw | ⟨_,k,g2,u,z,h3,_⟩
    · cases r with
      | leaf=>exact hw.elim
      | mk f =>
        rcases hw.2 x.w (Rel.refl _) with ⟨k,hk,hfk⟩ | ⟨g',w',hvs,hw'⟩
        · -- at its send
          cases mp with
          | true=>exact .inr ⟨rfl,x,k,rfl,hk⟩
          | false =>
            left
            obtain ⟨_,g2,v,z,hst,hq,hφ⟩:=hk
            have hF2 : Qax c (gs.setIfInBounds i fin0):=(h.places.fin i).form
            have hnone : partners (gs.setIfInBounds i fin0) c false = []:=by
              apply List.eq_nil_iff_forall_not_mem.2
              rintro ⟨j,kk⟩ hm
              obtain ⟨_,g3,z3,hg3⟩:=(Qpw hF2).1 hm
              by_cases hji : j = i
              · subst hji; rw [hself] at hg3
                have:=congrArg (Option.map Goroutine.status) hg3
                simp [parked] at this
              · rw [hset _ j hji] at hg3
                by_cases hj0 : j = 0
                · subst hj0
                  rw [h.g0] at hg3; cases hg3
                  have:=h.pl0
                  simp [parked] at this
                · obtain ⟨r3,_,hr3⟩:=h.oth j _ hj0 hg3
                  rcases hr3.place with h1 | h1 | ⟨g4,v4,z4,h1⟩
                  · simp [parked] at h1
                  · simp [parked] at h1
                  · simp [parked,rcase,scase] at h1
            have hrun:=Qqh (P:=P) (sl:=sl) (i:=i) hi (by rw [hb0]; exact hst W)
            rw [QDy hs hnone rfl,Qdw] at hrun
            have hgs : (gs.setIfInBounds i fin0).setIfInBounds i (parked g2 #[scase c v z] .send) = gs.setIfInBounds i (parked g2 #[scase c v z] .send):=by
              apply Array.ext_getElem?
              intro j
              by_cases hji : j = i
              · subst hji; simp [hlt]
              · rw [Array.getElem?_setIfInBounds_ne (Ne.symm hji),hset _ j hji,hset _ j hji]
            rw [hgs] at hrun
            refine ⟨_,_,_,vs,τ.set i (nt k),w,hrun,⟨i,_,_,hτ,⟨f,x.w,rfl,hfk.symm⟩,rfl⟩,Rel.refl w,?_⟩
            refine ⟨?_,h.main,by rw [hset _ 0 (Ne.symm hi0)]; exact h.g0,h.pl0,by simp [h.len],h.nod,h.act,h.posts,fun j gj hj hgj=>?_,h.orig,h.bas,h.size,h.keep,h.same⟩
            · rw [Array.size_setIfInBounds]; simpa using h.pi
            · by_cases hji : j = i
              · subst hji
                rw [hself] at hgj; cases hgj
                refine ⟨nt k,hτs _,?_⟩
                rw [hv]
                exact .inr ⟨rfl,k,g2,v,z,rfl,hq,hφ⟩
              · rw [hset _ j hji] at hgj
                rw [hτne _ j hji]
                simpa using h.oth j gj hj hgj
        · -- a step of its own
          left
          obtain ⟨hin,hsx⟩:=h.pi.seen i x hv
          obtain ⟨hnv,hstep⟩:=hvs hsx.nov
          obtain ⟨F',W',es,hgo,hat,hes⟩:=hstep x.F W hsx.agr
          have hap:=h.pi.apart 0 i _ x (Ne.symm hi0) h0 hv
          have hs0:=(h.pi.seen 0 _ h0).2
          have hcl:=h.pi.chan_lt
          have hs' : W'.heap[c]? = some (.chan 0 #[] false s s false):=by rw [hat.keep c hcl (.inl hsx.chan)]; exact hs
          have hrun:=runT_crowd_go (P:=P) (sl:=sl) (i:=i) hi (by rw [hb0]; exact hgo)
          rw [h.places.woken hs'] at hrun
          have hpi:=h.pi.step hv hat hnv hes gi.frame.fn gi.frame.place
          have hg : ∀ op ∈ MemOp.ofEvents i gi.frame.fn gi.frame.place es,op.g = i:=fun op hop=>by obtain ⟨e,_,rfl⟩:=Conc.mem_ofEvents hop; rfl
          refine ⟨_,_,_,Qac vs i (some ⟨fun b=>F' b ∧ b < W'.heap.size,x.Z,w'⟩) W',τ.set i (f x.w),(JG W' ⟨F,Z,w⟩).w,hrun,⟨i,_,_,hτ,⟨f,x.w,rfl,rfl⟩,rfl⟩,Qdr (x:=⟨F,Z,w⟩),?_⟩
          refine ⟨by rw [Array.size_setIfInBounds]; exact hpi,⟨F,by rw [Z6 (Ne.symm hi0),h0]; rfl,hF⟩,by rw [hset _ 0 (Ne.symm hi0)]; exact h.g0,h.pl0,by simp [h.len],h.nod,fun j=>?_,h.posts,fun j gj hj hgj=>?_,fun b hb=>?_,fun j y hy b hb=>?_,Nat.le_trans h.size hat.size,fun b hb hn=>?_,
            ⟨hat.same.1.trans h.same.1,hat.same.2.1.trans h.same.2.1,hat.same.2.2.trans h.same.2.2⟩⟩
          · rw [h.act j]
            by_cases hji : j = i
            · subst hji; rw [Jo,hv]; simp
            · rw [Z6 hji]; simp
          · by_cases hji : j = i
            · subst hji
              rw [hself] at hgj; cases hgj
              refine ⟨f x.w,hτs _,?_⟩
              rw [Jo]
              exact .inl hw'
            · rw [hset _ j hji] at hgj
              rw [hτne _ j hji,Deaf_other t (Ne.symm hji) _ hg,Z6 hji]
              obtain ⟨r2,h1,h2⟩:=h.oth j gj hj hgj
              exact ⟨r2,h1,h2.grown _ fun y=>⟨rfl,Qdr⟩⟩
          · have hFb : F b:=hs0.agr.zf b hb
            rw [hat.keep b (hs0.bnd b hFb) (by
              rcases Classical.em (x.F b) with hxb | hxb
              · exact .inr (hap b hFb hxb).2
              · exact .inl hxb)]
            exact h.orig b hb
          · by_cases hji : j = i
            · subst hji
              rw [Jo] at hy; cases hy
              rcases hat.new b hb.1 with h1 | h1
              · exact h.bas j x hv b h1
              · exact .inr (Nat.le_trans h.size h1.1)
            · rw [Z6 hji] at hy
              obtain ⟨y0,hy0,rfl⟩:=Option.map_eq_some_iff.1 hy
              exact h.bas j y0 hy0 b hb
          · rw [hat.keep b (Nat.lt_of_lt_of_le hb h.size) (.inl fun hxb => by
              rcases h.bas i x hv b hxb with h1 | h1
              · exact hn h1
              · omega)]
            exact h.keep b hb hn
    · rw [h3] at hr; simp [parked] at hr
end
end Go.Gw
