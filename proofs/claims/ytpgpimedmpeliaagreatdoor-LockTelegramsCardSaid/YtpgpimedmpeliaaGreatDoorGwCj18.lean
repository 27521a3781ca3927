/- Goroutines: goroutine 0 beside leavers; the making of a channel; the judgement of goroutine 0. No condition. -/
import Derived.Test.YtpgpimedmpeliaaGreatDoorGwCj17
set_option linter.unusedVariables false
set_option linter.unusedSimpArgs false
set_option linter.unusedSectionVars false
set_option linter.unusedVariables false
namespace Go.Gw
open Go Go.Conc
open Go.ConcN (sumTo upd sumTo_upd upd_ne upd_same)
section
variable {P:Program} {Sh:Loc→Prop} {F F':Nat→Prop} {w w':World} {gs:Array Goroutine} {W W' W2:World} {t:Trace} {q:Nat→Nat} {g:Goroutine}

theorem Went.refl (F:Nat→Prop) (W:World):Went F W F W:=⟨fun _ h=>h,fun _ h=>.inl h,fun _ _ _=>rfl,Nat.le_refl _,rfl,rfl,rfl⟩
theorem Went.at (F:Nat→Prop) (W:World) (d:Nat):Went F W F (W.at d):=⟨fun _ h=>h,fun _ h=>.inl h,fun _ _ _=>rfl,Nat.le_refl _,rfl,rfl,rfl⟩
theorem Went.trans {F2:Nat→Prop} (h:Went F W F' W') (k:Went F' W' F2 W2):Went F W F2 W2 :=
  ⟨fun b hb=>k.more b (h.more b hb),fun b hb=>(k.new b hb).elim (h.new b) fun h1=>.inr (Nat.le_trans h.size h1),fun b hb hn=>by
    rw [k.keep b (Nat.lt_of_lt_of_le hb h.size) fun hF=>(h.new b hF).elim hn (fun h1=>by omega)]
    exact h.keep b hb hn,Nat.le_trans h.size k.size,k.same.1.trans h.same.1,k.same.2.1.trans h.same.2.1,k.same.2.2.trans h.same.2.2⟩

theorem MI.at (h:MI P Sh F w gs W t q) (d:Nat):MI P Sh F (w.at d) gs (W.at d) t q:=⟨h.agr.at d,h.nov.rel (Zh _ d),h.bnd,h.shun,h.shlt,h.past,h.lv⟩
theorem MI.awake (h:MI P Sh F w gs W t q) (h0:gs[0]?=some g) (hr:g.status=.running):∀ x∈gs,Conc.awake x:=fun x hx=>by
  obtain ⟨i,hi,rfl⟩:=Array.mem_iff_getElem.1 hx
  rcases Nat.eq_zero_or_pos i with rfl | hpos
  · have:gs[0]=g:=by simpa [Array.getElem?_eq_getElem hi] using h0
    rw [this];exact awake_of (.inl hr)
  · exact awake_of ((h.lv.old i _ hpos (Array.getElem?_eq_getElem hi)).status.elim .inl fun x=>.inr (.inr x))
theorem MI.woken (h:MI P Sh F w gs W t q) (h0:gs[0]?=some g) (hr:g.status=.running) (a b:Goroutine) (w2:World):gs.map (Conc.woken P a b w2)=gs:=by
  apply Array.ext_getElem?
  intro i
  rw [Array.getElem?_map]
  cases hi:gs[i]? with
  | none=>rfl
  | some o =>
    simp only [Option.map_some,Option.some.injEq]
    rcases Nat.eq_zero_or_pos i with rfl | hpos
    · rw [h0] at hi;cases hi;exact woken_run hr
    · exact woken_quitsD (h.lv.old i o hpos hi)
theorem MI.slip (h : MI P Sh F w gs W t q) (h0 : gs[0]? = some g) (hr : g.status = .running) {i : Nat} {gi : Goroutine} (hi : gs[i]? = some gi) (hi0 : i ≠ 0) (hri : gi.status = .running) (sl : Option (Nat × Nat)) :
    ∃ (ops:Trace) (gs':Array Goroutine) (q':Nat→Nat),runT P (crowd gs W sl) i=(.next (crowd gs' W sl),ops)∧gs'[0]?=some g∧sumTo gs'.size q' < sumTo gs.size q∧MI P Sh F w gs' W (t++ops) q':=by
  have hpos:0 < i:=by omega
  have hq:=h.lv.old i gi hpos hi
  have hib:(i == 0)=false:=by simp [hi0]
  have hlt:i < gs.size:=(Array.getElem?_eq_some_iff.1 hi).1
  cases hqi:q i with
  | zero=>rw [hqi] at hq;rw [hq.1] at hri;cases hri
  | succ k =>
    rw [hqi] at hq
    rcases hq with ⟨hf,_⟩ | ⟨_,g',es,hm,hstp,hq'⟩
    · rw [hf] at hri;cases hri
    have hrunT:=runT_crowd_go (P:=P) (sl:=sl) (i:=i) hi (by rw [hib];exact hstp W)
    rw [h.woken h0 hr] at hrunT
    have hsum:sumTo gs.size (upd q i k)+(k+1)=sumTo gs.size q+k:=by
      have:=sumTo_upd q k id hlt
      simpa [hqi] using this
    refine ⟨_,_,upd q i k,hrunT,by rw [Array.getElem?_setIfInBounds_ne hi0];exact h0,by rw [Array.size_setIfInBounds];omega,⟨h.agr,h.nov,h.bnd,h.shun,h.shlt,h.past.mute hi0 hm,⟨fun j x hj hx=>?_,fun j hj=>?_⟩⟩⟩
    · by_cases hji:i=j
      · subst hji
        rw [Array.getElem?_setIfInBounds_self_of_lt hlt] at hx
        obtain rfl:=Option.some.inj hx
        rw [upd_same,Deaf_own]
        exact hq'
      · rw [Array.getElem?_setIfInBounds_ne hji] at hx
        rw [upd_ne q k (Ne.symm hji),Deaf_other t hji _ (fun op hop=>by obtain ⟨e,_,rfl⟩:=Conc.mem_ofEvents hop;rfl)]
        exact h.lv.old j x hj hx
    · rw [Deaf_other t (g':=i) (by simp at hj;omega) _ (fun op hop=>by obtain ⟨e,_,rfl⟩:=Conc.mem_ofEvents hop;rfl)]
      exact h.lv.above j (by simpa using hj)

theorem MI.own (h : MI P Sh F w gs W t q) (h0 : gs[0]? = some g) (hr : g.status = .running) {g' : Goroutine} (hv : Zd P true (fun _ => False) g w g' w') (sl : Option (Nat × Nat)) :
    ∃ (ops:Trace) (gs':Array Goroutine) (W':World) (F':Nat→Prop),runT P (crowd gs W sl) 0=(.next (crowd gs' W' sl),ops)∧gs'[0]?=some g'∧MI P Sh F' w' gs' W' (t++ops) q∧Went F W F' W':=by
  obtain ⟨hnv,hstep⟩:=hv h.nov
  obtain ⟨F',W',es,hgo,hat,hes⟩:=hstep F W h.agr
  have hlt:0 < gs.size:=(Array.getElem?_eq_some_iff.1 h0).1
  have hrun:=runT_crowd_go (P:=P) (sl:=sl) (i:=0) h0 (show stepG P (0 == 0) g W=_ from hgo)
  rw [h.woken h0 hr] at hrun
  have hg:∀ op∈MemOp.ofEvents 0 g.frame.fn g.frame.place es,op.g=0:=fun op hop=>by obtain ⟨e,_,rfl⟩:=Conc.mem_ofEvents hop;rfl
  have hb:∀ b,F' b→b < W'.heap.size:=fun b hb=>(hat.new b hb).elim (fun h1=>Nat.lt_of_lt_of_le (h.bnd b h1) hat.size) fun h1=>h1.2
  have hsh:∀ (l:Loc) (ad:Addr),AtL l ad→F' ad.block→¬ Sh l:=fun l ad hl had hs=>(hat.new _ had).elim (fun h1=>h.shun l ad hl h1 hs) fun h1=>by
    have:=h.shlt l ad hl hs;omega
  have hev:∀ e∈es,EvL Sh W'.heap.size e:=fun e he=>by
    refine ⟨fun x hx hs=>?_,(Qbd (hes e he)).1,(Qbd (hes e he)).2,Qil (hes e he) hb⟩
    obtain ⟨ad,h1,h2,_⟩:=Qim (hes e he) hx
    exact absurd hs (hsh _ ad h1 h2)
  refine ⟨_,_,W',F',hrun,by simp [hlt],⟨hat.agr,hnv,hb,hsh,fun l ad hl hs=>Nat.lt_of_lt_of_le (h.shlt l ad hl hs) hat.size,(h.past.mono hat.size).own hev,⟨fun j x hj hx=>?_,fun j hj=>?_⟩⟩,⟨hat.more,fun b hb=>(hat.new b hb).imp id fun h1=>h1.1,fun b hb hn=>hat.keep b hb (.inl hn),hat.size,hat.same⟩⟩
  · have hj0:0≠j:=by omega
    rw [Array.getElem?_setIfInBounds_ne hj0] at hx
    rw [Deaf_other t hj0 _ hg]
    exact h.lv.old j x hj hx
  · rw [Deaf_other t (g':=0) (by simp at hj;omega) _ hg]
    exact h.lv.above j (by simpa using hj)
end
end Go.Gw
