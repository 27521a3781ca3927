/- Goroutines: goroutine 0's walk among its workers gets to its end. No condition. -/
import Derived.Test.YtbplgfhjpeeieaaGwCj16
set_option linter.unusedVariables false
set_option linter.unusedSimpArgs false
set_option linter.unusedSectionVars false
set_option linter.unusedVariables false
namespace Go.Gw
open Go Go.Conc
section
variable {P : Program} {Sh : Loc → Prop} {c : Nat} {Fs : Nat → Prop} {Ws : World} {S : Goroutine → World → Prop}

theorem QOk (hc0 : Ws.heap.size = c) (hSh : ∀ ad : Addr, Sh (.cell ad) → ad.block < Ws.heap.size ∧ ¬ Fs ad.block) {Z : Nat → Prop} {orig : Nat → Option Obj} {O : List (Value → World → Prop)} {g : Goroutine} {w : World} (h : PW P c S Z orig O g w) :
    ∀ w1,Rel w w1 → ∀ τ vs ph A gs W sl t,Cfg P Sh c Fs Ws false Z orig O g w1 vs ph A τ gs W t → Reach P (Fin0 P Sh S Fs Ws) gs W sl t:=by
  induction h with
  | @done Z orig g w hrun hS =>
    intro w1 hr τ vs ph A gs W sl t h
    exact Reach.here (h.done hSh (hS w1 hr))
  | @step Z orig O g w nx hrun hv hn ih =>
    intro w1 hr τ
    revert w1
    induction Qes τ with
    | intro τ _ ih2 =>
      intro w1 hr vs ph A gs W sl t h
      obtain ⟨i,gi,d,sl',hgi,hrg,hst,h'⟩:=h.pick ⟨0,g,h.g0,hrun⟩ sl
      by_cases hi0 : i = 0
      · subst hi0
        obtain ⟨ops,gs',W',vs',h1,h2⟩:=h'.own (hv _ (hr.trans (Y5 _ d))) (hn _ (hr.trans (Y5 _ d))).running sl'
        exact Reach.step (hst.trans h1) (ih _ (hr.trans (Y5 _ d)) _ (Rel.refl _) τ vs' ph A gs' W' sl' _ h2)
      · rcases h'.other hgi hi0 hrg sl' with ⟨ops,gs',W',vs',τ',w',h1,h2,h3,h4⟩ | ⟨h1,_⟩
        · exact Reach.step (hst.trans h1) (ih2 τ' h2 w' (hr.trans ((Y5 _ d).trans h3)) vs' ph A gs' W' sl' _ h4)
        · cases h1
  | @fork Z orig O g w g' child C φ hrun hsp hC hw hn ih =>
    intro w1 hr τ
    revert w1
    induction Qes τ with
    | intro τ _ ih2 =>
      intro w1 hr vs ph A gs W sl t h
      obtain ⟨i,gi,d,sl',hgi,hrg,hst,h'⟩:=h.pick ⟨0,g,h.g0,hrun⟩ sl
      by_cases hi0 : i = 0
      · subst hi0
        have hr2:=hr.trans (Y5 w1 d)
        obtain ⟨ops,gs',vs',ph',A',τ',h1,h2⟩:=h'.fork hsp (hC _ hr2) (hw _ hr2) (hn _ hr2).running sl'
        exact Reach.step (hst.trans h1) (ih _ hr2 _ (Rel.refl _) τ' vs' ph' A' gs' _ sl' _ h2)
      · rcases h'.other hgi hi0 hrg sl' with ⟨ops,gs',W',vs',τ',w',h1,h2,h3,h4⟩ | ⟨h1,_⟩
        · exact Reach.step (hst.trans h1) (ih2 τ' h2 w' (hr.trans ((Y5 _ d).trans h3)) vs' ph A gs' W' sl' _ h4)
        · cases h1
  | @recv Z orig O g w g2 z hrun hcm hO hn ih =>
    have hk : ∀ O1 φ O2,O = O1 ++ φ :: O2 → ∀ w1 xw w' v,Rel w w1 → φ v xw → Shows xw w' → More w1 w' → (∀ b,b < c → w'.heap[b]? = w1.heap[b]?) → ∀ w2,Rel w' w2 → ∀ τ vs ph A gs W sl t,Cfg P Sh c Fs Ws false Z orig (O1 ++ O2) (Conc.served g2 v) w2 vs ph A τ gs W t → Reach P (Fin0 P Sh S Fs Ws) gs W sl t :=
      fun O1 φ O2 e w1 xw w' v hr hφ hs hm hl=>ih O1 φ O2 e w1 xw w' v hr hφ hs hm hl
    intro w1 hr τ
    revert w1
    induction Qes τ with
    | intro τ _ ih2 =>
      intro w1 hr vs ph A gs W sl t h
      obtain ⟨i,gi,d,sl',hgi,hrg,hst,h'⟩:=h.pick ⟨0,g,h.g0,hrun⟩ sl
      by_cases hi0 : i = 0
      · subst hi0
        rw [h.g0] at hgi; cases hgi
        have hr2:=hr.trans (Y5 w1 d)
        have hlt0 : 0 < gs.size:=(Array.getElem?_eq_some_iff.1 h.g0).1
        obtain ⟨s,hsc⟩:=h'.pi.chan
        have hF2 : Qax c (gs.setIfInBounds 0 fin0):=(h'.places.fin 0).form
        have hrT:=Qqh (P:=P) (sl:=sl') (i:=0) h.g0 (show stepG P (0 == 0) g (W.at d) = _ from hcm (W.at d))
        by_cases hp : partners (gs.setIfInBounds 0 fin0) c true = []
        · -- it Qem
          rw [QDw hsc hp rfl,Qdw] at hrT
          have hgs : (gs.setIfInBounds 0 fin0).setIfInBounds 0 (parked g2 #[rcase c z] (.recv false)) = gs.setIfInBounds 0 (parked g2 #[rcase c z] (.recv false)):=by
            apply Array.ext_getElem?
            intro j
            by_cases hj : j = 0
            · subst hj; simp [hlt0]
            · rw [Array.getElem?_setIfInBounds_ne (Ne.symm hj),Array.getElem?_setIfInBounds_ne (Ne.symm hj),Array.getElem?_setIfInBounds_ne (Ne.symm hj)]
          rw [hgs] at hrT
          refine Reach.step (hst.trans hrT) ?_
          simp only [Array.append_empty]
          refine QOl hc0 (g2:=g2) (z:=z) hO hk τ (w1.at d) hr2 (Qao vs d) ph A _ _ sl' t ?_
          refine ⟨by rw [Array.size_setIfInBounds]; exact h'.pi,h'.main,by simp [hlt0],⟨g2,z,rfl⟩,by simp [h'.len],h'.nod,h'.act,h'.posts,fun j gj hj hgj=>?_,h'.orig,h'.bas,h'.size,h'.keep,h'.same⟩
          rw [Array.getElem?_setIfInBounds_ne (Ne.symm hj)] at hgj
          obtain ⟨r,h1,h2⟩:=h'.oth j gj hj hgj
          refine ⟨r,h1,?_⟩
          cases hv : Qao vs d j with
          | none=>rw [hv] at h2; exact h2
          | some x =>
            rw [hv] at h2
            rcases h2 with h2 | ⟨_,k,gw,v,z',h3,_⟩
            · exact .inl h2
            · exfalso
              have : (j,0) ∈ partners (gs.setIfInBounds 0 fin0) c true:=(Qyq hF2).2 ⟨rfl,gw,v,z',by rw [Array.getElem?_setIfInBounds_ne (Ne.symm hj),hgj,h3]⟩
              rw [hp] at this; cases this
        · -- they meet
          obtain ⟨d2,j,g3,v,z3,hj,hcomm⟩:=QDv (P:=P) (rest:={ timers:=#[],alone:=none,slice:=sl' }) (i:=0) (g:=g2) (z:=z) hsc hF2 hp
          rw [hcomm,Qdw] at hrT
          have hj0 : j ≠ 0:=fun e=>by
            subst e
            have:=congrArg (Option.map Goroutine.status) hj
            simp [parked,hlt0] at this
          have hgj : gs[j]? = some (parked g3 #[scase c v z3] .send):=by rw [Array.getElem?_setIfInBounds_ne (Ne.symm hj0)] at hj; exact hj
          obtain ⟨hltj,_⟩:=Array.getElem?_eq_some_iff.1 hgj
          obtain ⟨r,_,hrole⟩:=h'.oth j _ hj0 hgj
          cases hv : Qao vs d j with
          | none =>
            rw [hv] at hrole
            obtain ⟨k,_,hq⟩:=hrole
            rcases hq.status with h1 | h1 <;> simp [parked] at h1
          | some x =>
            rw [hv] at hrole
            rcases hrole with h1 | ⟨_,k,gw,v',z',h3,hq,hφ⟩
            · have:=h1.running; simp [parked] at this
            · have hvv : v' = v := by
                have:=congrArg (fun g : Goroutine=>g.offers) h3
                simp [parked,scase] at this
                exact this.1.symm
              subst hvv
              have hsv:=Qzw h3 undef
              obtain ⟨O1,O2,w',vs',A',τ',e1,e2,e3,e5,e4⟩:=h'.meet hc0 (k:=k) (g':=Conc.served g2 v') (gw:=Conc.served g3 undef) (v:=v') (gs':=((gs.setIfInBounds 0 fin0).setIfInBounds j (Conc.served g3 undef)).setIfInBounds 0 (Conc.served g2 v')) hj0 hv hsc (by rw [hsv]; exact hq) (hφ _ (Rel.refl _)) rfl (by simp)
                (by simp [hlt0]) (by rw [Array.getElem?_setIfInBounds_ne (Ne.symm hj0)]; simp [hltj]) (fun l hl hlj=>by rw [Array.getElem?_setIfInBounds_ne (Ne.symm hl),Array.getElem?_setIfInBounds_ne (Ne.symm hlj),Array.getElem?_setIfInBounds_ne (Ne.symm hl)])
                g3.frame.fn g2.frame.fn g3.frame.fn g2.frame.fn g3.frame.place g2.frame.place g3.frame.place g2.frame.place
              refine Reach.step (hst.trans hrT) ?_
              simp only [Array.empty_append]
              exact hk O1 (ph j) O2 e1 _ x.w w' v' hr2 (hφ _ (Rel.refl _)) e2 e3 e5 _ (Y5 w' d2) τ' _ ph A' _ _ sl' _ (e4.at d2)
      · rcases h'.other hgi hi0 hrg sl' with ⟨ops,gs',W',vs',τ',w',h1,h2,h3,h4⟩ | ⟨h1,_⟩
        · exact Reach.step (hst.trans h1) (ih2 τ' h2 w' (hr.trans ((Y5 _ d).trans h3)) vs' ph A gs' W' sl' _ h4)
        · cases h1
end
end Go.Gw
