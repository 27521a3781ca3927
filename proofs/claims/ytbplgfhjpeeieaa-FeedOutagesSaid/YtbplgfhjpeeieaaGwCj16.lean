/- Goroutines: THE RUN GETS BEHIND THE LAST RECEIVE, on whatever tape. No condition. -/
import Derived.Test.YtbplgfhjpeeieaaGwCj15
set_option linter.unusedVariables false
set_option linter.unusedSimpArgs false
set_option linter.unusedSectionVars false
set_option linter.unusedVariables false
namespace Go.Gw
open Go Go.Conc
section
variable {P : Program} {Sh : Loc → Prop} {c : Nat} {Fs : Nat → Prop} {Ws : World} {mp : Bool} {Z : Nat → Prop} {orig : Nat → Option Obj} {O : List (Value → World → Prop)} {g : Goroutine} {w : World}
variable {vs : Nat → Option View} {ph : Nat → Value → World → Prop} {A : List Nat} {τ : List Tr} {gs : Array Goroutine} {W : World} {t : Trace} {S : Goroutine → World → Prop}

theorem Role.weaken {v : Option View} {φ : Value → World → Prop} {d : Nat} {r : Tr} {g : Goroutine} (h : Role P c mp v φ d r g) : Role P c false v φ d r g:=by
  cases v with
  | none=>exact h
  | some x=>exact h.imp id fun ⟨_,h⟩=>⟨rfl,h⟩

theorem Cfg.meet (hc0 : Ws.heap.size = c) (h : Cfg P Sh c Fs Ws mp Z orig O g w vs ph A τ gs W t) {i : Nat} {x : View} (hi0 : i ≠ 0) (hv : vs i = some x) {s : Nat} (hs : W.heap[c]? = some (.chan 0 #[] false s s false)) {k : Nat} {g' gw : Goroutine} {v : Value} (hq : QuitsD P k 0 gw) (hφ : ph i v x.w) (hr : g'.status = .running)
    {gs' : Array Goroutine} (hsz : gs'.size = gs.size) (hg0 : gs'[0]? = some g') (hgi : gs'[i]? = some gw) (hgj : ∀ j,j ≠ 0 → j ≠ i → gs'[j]? = gs[j]?) (f1 f2 f3 f4 : FuncId) (p1 p2 p3 p4 : String) :
    ∃ (O1 O2 : List (Value → World → Prop)) (w' : World) (vs' : Nat → Option View) (A' : List Nat) (τ' : List Tr),O = O1 ++ ph i :: O2 ∧ Shows x.w w' ∧ More w w' ∧ (∀ b,b < c → w'.heap[b]? = w.heap[b]?) ∧
      Cfg P Sh c Fs Ws false Z orig (O1 ++ O2) g' w' vs' ph A' τ' gs' (W.passed c s s false)
        (t ++ #[{ g:=i,fn:=f1,pos:=p1,act:=.send c s },{ g:=0,fn:=f2,pos:=p2,act:=.recv c s 0 },{ g:=i,fn:=f3,pos:=p3,act:=.sendDone c s },{ g:=0,fn:=f4,pos:=p4,act:=.recvDone c s }]):=by
  obtain ⟨F,h0,hF⟩:=h.main
  have hs0:=(h.pi.seen 0 _ h0).2
  obtain ⟨hin,hsx⟩:=h.pi.seen i x hv
  have hiA : i ∈ A:=(h.act i).2 ⟨hi0,by rw [hv]; rfl⟩
  obtain ⟨A1,A2,hA⟩:=List.append_of_mem hiA
  have hnd:=h.nod
  rw [hA] at hnd
  obtain ⟨hn1,hn2,hn3⟩:=List.nodup_append.1 hnd
  obtain ⟨hn4,hn5⟩:=List.nodup_cons.1 hn2
  have hi12 : i ∉ A1 ++ A2:=fun hm=>by
    rcases List.mem_append.1 hm with h1 | h1
    · exact hn3 i h1 i (List.mem_cons_self ..) rfl
    · exact hn4 h1
  have hn12 : (A1 ++ A2).Nodup:=List.nodup_append.2 ⟨hn1,hn5,fun a ha b hb=>hn3 a ha b (List.mem_cons_of_mem _ hb)⟩
  have hap:=h.pi.apart 0 i _ x (Ne.symm hi0) h0 hv
  have hpi:=h.pi.meet h0 hv hi0 hs f1 f2 f3 f4 p1 p2 p3 p4
  refine ⟨A1.map ph,A2.map ph,Ji ⟨F,Z,w⟩ x,(fun j=>if j = 0 then some ⟨fun b=>F b ∨ x.F b,Z,Ji ⟨F,Z,w⟩ x⟩ else if j = i then none else vs j),A1 ++ A2,τ.set i (nt k),by rw [h.posts,hA]; simp,QLd hs0.agr hsx.agr hap,QLb hs0.agr,fun b hb=>?_,?_⟩
  · rw [Qce]
    cases hw : w.heap[b]? with
    | none=>rfl
    | some o =>
      simp only [Option.map_some,Option.some.injEq]
      by_cases hFb : F b
      · rw [if_pos hFb]
      · have hj:=hs0.agr.hid b hFb (Array.getElem?_eq_some_iff.1 hw).1
        rw [hw] at hj; cases hj
        rw [if_neg hFb,if_neg]
        intro hx
        rcases h.bas i x hv b hx with h1 | h1
        · exact hFb (hF b h1)
        · omega
  have et : t ++ #[{ g := i, fn := f1, pos := p1, act := .send c s }, { g := 0, fn := f2, pos := p2, act := .recv c s 0 }, { g := i, fn := f3, pos := p3, act := .sendDone c s }, { g := 0, fn := f4, pos := p4, act := .recvDone c s }] =
      t ++ #[{ g:=i,fn:=f1,pos:=p1,act:=.send c s }] ++ #[{ g:=0,fn:=f2,pos:=p2,act:=.recv c s 0 }] ++ #[{ g:=i,fn:=f3,pos:=p3,act:=.sendDone c s }] ++ #[{ g:=0,fn:=f4,pos:=p4,act:=.recvDone c s }]:=by
    simp only [Array.append_assoc]; rfl
  rw [et]
  have hdeaf : ∀ j,Deaf (t ++ #[{ g:=i,fn:=f1,pos:=p1,act:=.send c s }] ++ #[{ g:=0,fn:=f2,pos:=p2,act:=.recv c s 0 }] ++ #[{ g:=i,fn:=f3,pos:=p3,act:=.sendDone c s }] ++ #[{ g:=0,fn:=f4,pos:=p4,act:=.recvDone c s }]) j = Deaf t j:=fun j=>by
    rw [ZZ (Qna ..),ZZ (Qij ..),ZZ (Qih ..),ZZ (Qii ..)]
  refine ⟨by rw [hsz]; exact hpi,⟨fun b=>F b ∨ x.F b,if_pos rfl,fun b hb=>.inl (hF b hb)⟩,hg0,by simpa using hr,by rw [List.length_set,h.len,hsz],hn12,fun j=>?_,by rw [List.map_append],fun j gj hj hgjj=>?_,fun b hb=>?_,fun j y hy b hb=>?_,by rw [passed_size]; exact h.size,fun b hb hn=>?_,h.same⟩
  · have hm : j ∈ A ↔ j = i ∨ j ∈ A1 ++ A2:=by rw [hA]; simp only [List.mem_append,List.mem_cons]; constructor <;> (intro h; rcases h with h | h | h <;> simp [h])
    by_cases hj : j = 0
    · subst hj
      simp only [ne_eq,not_true_eq_false,false_and,iff_false]
      intro h1
      exact ((h.act 0).1 (hm.2 (.inr h1))).1 rfl
    · by_cases hji : j = i
      · subst hji; simp [hj]; simpa using hi12
      · simp only [hj,hji,if_false,ne_eq,not_false_eq_true,true_and]
        have:=h.act j
        rw [hm] at this
        simp only [hji,false_or,hj,ne_eq,not_false_eq_true,true_and] at this
        exact this
  · rw [hdeaf j]
    simp only [hj,if_false]
    by_cases hji : j = i
    · subst hji
      rw [hgi] at hgjj; cases hgjj
      have hlt : j < τ.length:=by rw [h.len]; exact hin
      refine ⟨nt k,by rw [List.getElem?_set_self hlt],?_⟩
      rw [if_pos rfl,hsx.deaf]
      exact ⟨k,rfl,hq⟩
    · rw [hgj j hj hji] at hgjj
      rw [List.getElem?_set_ne (Ne.symm hji),if_neg hji]
      obtain ⟨r,h1,h2⟩:=h.oth j gj hj hgjj
      exact ⟨r,h1,h2.weaken⟩
  · have hbF:=hs0.agr.zf b hb
    rw [Qjz (fun (e : b = c)=>hs0.chan (e ▸ hbF))]
    exact h.orig b hb
  · by_cases hj : j = 0
    · rw [if_pos hj] at hy; cases hy
      exact hb.elim (h.bas 0 _ h0 b) (h.bas i x hv b)
    · rw [if_neg hj] at hy
      by_cases hji : j = i
      · rw [if_pos hji] at hy; cases hy
      · rw [if_neg hji] at hy; exact h.bas j y hy b hb
  · rw [Qjz (by omega)]; exact h.keep b hb hn

theorem Qzw {g2 g3 : Goroutine} {cs cs' : Array CommCase} {sh sh' : CommShape} (h : parked g2 cs sh = parked g3 cs' sh') (v : Value) : Conc.served g2 v = Conc.served g3 v:=by
  have e : ∀ (g : Goroutine) cs sh,Conc.served (parked g cs sh) v = Conc.served g v:=fun _ _ _=>rfl
  rw [← e g2 cs sh,h,e]
theorem set_set {i j : Nat} (hij : i ≠ j) (x y z : Goroutine) : ((gs.setIfInBounds i x).setIfInBounds j y)[i]? = (gs.setIfInBounds i x)[i]?:=by
  rw [Array.getElem?_setIfInBounds_ne (Ne.symm hij)]

theorem QOl (hc0 : Ws.heap.size = c) {g2 : Goroutine} {z : Value} (hO : O ≠ [])
    (hk : ∀ O1 φ O2,O = O1 ++ φ :: O2 → ∀ w1 xw w' v,Rel w w1 → φ v xw → Shows xw w' → More w1 w' → (∀ b,b < c → w'.heap[b]? = w1.heap[b]?) → ∀ w2,Rel w' w2 → ∀ τ vs ph A gs W sl t,Cfg P Sh c Fs Ws false Z orig (O1 ++ O2) (Conc.served g2 v) w2 vs ph A τ gs W t → Reach P (Fin0 P Sh S Fs Ws) gs W sl t) :
    ∀ τ w1,Rel w w1 → ∀ vs ph A gs W sl t,Cfg P Sh c Fs Ws true Z orig O (parked g2 #[rcase c z] (.recv false)) w1 vs ph A τ gs W t → Reach P (Fin0 P Sh S Fs Ws) gs W sl t:=by
  intro τ
  induction Qes τ with
  | intro τ _ ih =>
    intro w1 hr vs ph A gs W sl t h
    -- someone walks
    have hrun : ∃ (i : Nat) (gi : Goroutine),gs[i]? = some gi ∧ gi.status = .running:=by
      have hA : A ≠ []:=fun e=>by have:=h.posts; rw [e] at this; exact hO this
      obtain ⟨i,hi⟩:=List.exists_mem_of_ne_nil _ hA
      obtain ⟨hi0,hvi⟩:=(h.act i).1 hi
      cases hv : vs i with
      | none=>rw [hv] at hvi; cases hvi
      | some x =>
        have hlt:=(h.pi.seen i x hv).1
        obtain ⟨r,_,hrole⟩:=h.oth i _ hi0 (Array.getElem?_eq_getElem hlt)
        rw [hv] at hrole
        rcases hrole with h1 | ⟨h1,_⟩
        · exact ⟨i,_,Array.getElem?_eq_getElem hlt,h1.running⟩
        · cases h1
    obtain ⟨i,gi,d,sl',hgi,hrg,hst,h'⟩:=h.pick hrun sl
    have hi0 : i ≠ 0:=fun e=>by
      subst e
      rw [h.g0] at hgi; cases hgi
      simp [parked] at hrg
    rcases h'.other hgi hi0 hrg sl' with ⟨ops,gs',W',vs',τ',w',h1,h2,h3,h4⟩ | ⟨_,x,k,hv,hs⟩
    · exact Reach.step (hst.trans h1) (ih τ' h2 w' (hr.trans ((Y5 _ d).trans h3)) vs' ph A gs' W' sl' _ h4)
    · -- they meet
      obtain ⟨_,gw2,v,z2,hcm,hq,hφ⟩:=hs
      obtain ⟨hlt,_⟩:=Array.getElem?_eq_some_iff.1 hgi
      have hlt0 : 0 < gs.size:=(Array.getElem?_eq_some_iff.1 h.g0).1
      have hb0 : (i == 0) = false:=by simp [hi0]
      obtain ⟨s,hsc⟩:=h'.pi.chan
      have hF2 : Qax c (gs.setIfInBounds i fin0):=(h'.places.fin i).form
      have h0i : (gs.setIfInBounds i fin0)[0]? = some (parked g2 #[rcase c z] (.recv false)):=by rw [Array.getElem?_setIfInBounds_ne hi0]; exact h.g0
      have hne : partners (gs.setIfInBounds i fin0) c false ≠ []:=fun e=>by
        have : (0,0) ∈ partners (gs.setIfInBounds i fin0) c false:=(Qpw hF2).2 ⟨rfl,g2,z,h0i⟩
        rw [e] at this; cases this
      obtain ⟨d2,j,g3,z3,hj,hcomm⟩:=QDx (P:=P) (rest:={ timers:=#[],alone:=none,slice:=sl' }) (i:=i) (g:=gw2) (v:=v) (z:=z2) hsc hF2 hne
      have hj0 : j = 0:=by
        refine Classical.byContradiction fun hj0=>?_
        by_cases hji : j = i
        · subst hji
          have:=congrArg (Option.map Goroutine.status) hj
          simp [parked,hlt] at this
        · rw [Array.getElem?_setIfInBounds_ne (Ne.symm hji)] at hj
          obtain ⟨r3,_,hr3⟩:=h'.oth j _ hj0 hj
          rcases hr3.place with h1 | h1 | ⟨g4,v4,z4,h1⟩
          · simp [parked] at h1
          · simp [parked] at h1
          · simp [parked,rcase,scase] at h1
      subst hj0
      rw [h0i] at hj
      have hsv:=Qzw (Option.some.inj hj) v
      have hrT:=Qqh (P:=P) (sl:=sl') (i:=i) hgi (by rw [hb0]; exact hcm (W.at d))
      rw [hcomm,Qdw] at hrT
      obtain ⟨O1,O2,w',vs',A',τ',e1,e2,e3,e5,e4⟩:=h'.meet hc0 (k:=k) (g':=Conc.served g2 v) (gw:=Conc.served gw2 undef) (v:=v) (gs':=((gs.setIfInBounds i fin0).setIfInBounds 0 (Conc.served g3 v)).setIfInBounds i (Conc.served gw2 undef)) hi0 hv hsc hq (hφ _ (Rel.refl _)) rfl (by simp)
        (by rw [Array.getElem?_setIfInBounds_ne hi0,← hsv]; simp [hlt0]) (by simp [hlt]) (fun j hj hji=>by rw [Array.getElem?_setIfInBounds_ne (Ne.symm hji),Array.getElem?_setIfInBounds_ne (Ne.symm hj),Array.getElem?_setIfInBounds_ne (Ne.symm hji)])
        gw2.frame.fn g3.frame.fn gw2.frame.fn g3.frame.fn gw2.frame.place g3.frame.place gw2.frame.place g3.frame.place
      refine Reach.step (hst.trans hrT) ?_
      simp only [Array.empty_append]
      exact hk O1 (ph i) O2 e1 _ x.w w' v (hr.trans (Y5 _ d)) (hφ _ (Rel.refl _)) e2 e3 e5 _ (Y5 w' d2) τ' _ ph A' _ _ sl' _ (e4.at d2)
end
end Go.Gw
