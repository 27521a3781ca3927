/- Goroutines: whoever is many: their places, their ranks. No condition. -/
import Derived.Test.YtpgpimedmpeliaaGreatDoorGwCj12
set_option linter.unusedVariables false
set_option linter.unusedSimpArgs false
set_option linter.unusedSectionVars false
set_option linter.unusedVariables false
namespace Go.Gw
open Go Go.Conc

def WT (P:Program) (Z:Nat→Prop) (St:Nat→Goroutine→World→Prop):Tr→Goroutine→World→Prop
  | .leaf,_,_=>False
  | .mk f,g,w=>g.status=.running∧∀ w1,Rel w w1→(∃ k,St k g w1∧f w1=nt k)∨∃ g' w',Zd P false Z g w1 g' w'∧WT P Z St (f w1) g' w'
theorem WT.rely {P:Program} {Z:Nat→Prop} {St:Nat→Goroutine→World→Prop} {τ:Tr} {g:Goroutine} {w w1:World} (h:WT P Z St τ g w) (r:Rel w w1):WT P Z St τ g w1:=by
  cases τ with
  | leaf=>exact h
  | mk f=>exact ⟨h.1,fun w2 r2=>h.2 w2 (r.trans r2)⟩
theorem WT.running {P:Program} {Z:Nat→Prop} {St:Nat→Goroutine→World→Prop} {τ:Tr} {g:Goroutine} {w:World} (h:WT P Z St τ g w):g.status=.running:=by
  cases τ with
  | leaf=>exact h.elim
  | mk f=>exact h.1
def Jw (P:Program) (Z:Nat→Prop):Jd P:=⟨false,Z,fun _ _ _=>False⟩
theorem WT.of {P:Program} {Z:Nat→Prop} {St:Nat→Goroutine→World→Prop} (hSt:∀ k g w,St k g w→g.status=.running) {g:Goroutine} {w:World} (h:Wlk (Jw P Z) (fun g w=>∃ k,St k g w) g w):∃ τ,WT P Z St τ g w:=by
  induction h with
  | @stop g w h =>
    have key:∀ w1:World,∃ k,Rel w w1→St k g w1:=fun w1=>by
      rcases Classical.em (Rel w w1) with hr | hr
      · obtain ⟨k,hk⟩:=h w1 hr;exact ⟨k,fun _=>hk⟩
      · exact ⟨0,fun hh=>absurd hh hr⟩
    refine ⟨.mk fun w1=>nt (Classical.choose (key w1)),?_,fun w1 r=>.inl ⟨_,Classical.choose_spec (key w1) r,rfl⟩⟩
    obtain ⟨k,hk⟩:=h w (Rel.refl w)
    exact hSt k g w hk
  | @step g w nx hs h1 h2 ih =>
    have key:∀ w1:World,∃ τ,Rel w w1→WT P Z St τ (nx w1).1 (nx w1).2:=fun w1=>by
      rcases Classical.em (Rel w w1) with hr | hr
      · obtain ⟨τ,hk⟩:=ih w1 hr;exact ⟨τ,fun _=>hk⟩
      · exact ⟨.leaf,fun hh=>absurd hh hr⟩
    exact ⟨.mk fun w1=>Classical.choose (key w1),hs,fun w1 r=>.inr ⟨_,_,h1 w1 r,Classical.choose_spec (key w1) r⟩⟩
  | phase S hs h1 h2 ih=>exact (h1 _ (Rel.refl _)).elim

end Go.Gw
