/- Goroutines: whoever is many: their places, their ranks. No condition. -/
import Derived.Test.YtbplgfhjpeeieaaGwCj12
set_option linter.unusedVariables false
set_option linter.unusedSimpArgs false
set_option linter.unusedSectionVars false
set_option linter.unusedVariables false
namespace Go.Gw
open Go Go.Conc

def Qay (P : Program) (c : Nat) (φ : Value → World → Prop) (k : Nat) (g : Goroutine) (w : World) : Prop :=
  g.status = .running ∧ ∃ g2 v z,(∀ W,stepG P false g W = .comm g2 #[scase c v z] true .send W #[]) ∧ QuitsD P k 0 (Conc.served g2 undef) ∧ ∀ w1,Rel w w1 → φ v w1
def WT (P : Program) (Z : Nat → Prop) (St : Nat → Goroutine → World → Prop) : Tr → Goroutine → World → Prop
  | .leaf,_,_=>False
  | .mk f,g,w=>g.status = .running ∧ ∀ w1,Rel w w1 → (∃ k,St k g w1 ∧ f w1 = nt k) ∨ ∃ g' w',JP P false Z g w1 g' w' ∧ WT P Z St (f w1) g' w'
theorem WT.rely {P : Program} {Z : Nat → Prop} {St : Nat → Goroutine → World → Prop} {τ : Tr} {g : Goroutine} {w w1 : World} (h : WT P Z St τ g w) (r : Rel w w1) : WT P Z St τ g w1:=by
  cases τ with
  | leaf=>exact h
  | mk f=>exact ⟨h.1,fun w2 r2=>h.2 w2 (r.trans r2)⟩
theorem WT.running {P : Program} {Z : Nat → Prop} {St : Nat → Goroutine → World → Prop} {τ : Tr} {g : Goroutine} {w : World} (h : WT P Z St τ g w) : g.status = .running:=by
  cases τ with
  | leaf=>exact h.elim
  | mk f=>exact h.1
def Jw (P : Program) (Z : Nat → Prop) : Jd P:=⟨false,Z,fun _ _ _=>False⟩
theorem WT.of {P : Program} {Z : Nat → Prop} {St : Nat → Goroutine → World → Prop} (hSt : ∀ k g w,St k g w → g.status = .running) {g : Goroutine} {w : World} (h : Wlk (Jw P Z) (fun g w=>∃ k,St k g w) g w) : ∃ τ,WT P Z St τ g w:=by
  induction h with
  | @stop g w h =>
    have key : ∀ w1 : World,∃ k,Rel w w1 → St k g w1:=fun w1=>by
      rcases Classical.em (Rel w w1) with hr | hr
      · obtain ⟨k,hk⟩:=h w1 hr; exact ⟨k,fun _=>hk⟩
      · exact ⟨0,fun hh=>absurd hh hr⟩
    refine ⟨.mk fun w1=>nt (Classical.choose (key w1)),?_,fun w1 r=>.inl ⟨_,Classical.choose_spec (key w1) r,rfl⟩⟩
    obtain ⟨k,hk⟩:=h w (Rel.refl w)
    exact hSt k g w hk
  | @step g w nx hs h1 h2 ih =>
    have key : ∀ w1 : World,∃ τ,Rel w w1 → WT P Z St τ (nx w1).1 (nx w1).2:=fun w1=>by
      rcases Classical.em (Rel w w1) with hr | hr
      · obtain ⟨τ,hk⟩:=ih w1 hr; exact ⟨τ,fun _=>hk⟩
      · exact ⟨.leaf,fun hh=>absurd hh hr⟩
    exact ⟨.mk fun w1=>Classical.choose (key w1),hs,fun w1 r=>.inr ⟨_,_,h1 w1 r,Classical.choose_spec (key w1) r⟩⟩
  | phase S hs h1 h2 ih=>exact (h1 _ (Rel.refl _)).elim

def Places (c : Nat) (gs : Array Goroutine) : Prop:=∀ (i : Nat) (g : Goroutine),gs[i]? = some g → g.status = .running ∨ g.status = .finished ∨ (∃ g2 v z,g = parked g2 #[scase c v z] .send) ∨ ∃ g2 z,g = parked g2 #[rcase c z] (.recv false)
theorem Places.form {c : Nat} {gs : Array Goroutine} (h : Places c gs) : Qax c gs:=fun i g hg=>by
  rcases h i g hg with h1 | h1 | h1
  · exact .inl (by rw [h1]; simp)
  · exact .inl (by rw [h1]; simp)
  · exact .inr h1
theorem Places.fin {c : Nat} {gs : Array Goroutine} (h : Places c gs) (i : Nat) : Places c (gs.setIfInBounds i fin0):=fun j g hg=>by
  by_cases hj : i = j
  · subst hj
    rw [Array.getElem?_setIfInBounds] at hg
    simp only [if_true] at hg
    split at hg
    · cases hg; exact .inr (.inl rfl)
    · cases hg
  · rw [Array.getElem?_setIfInBounds_ne hj] at hg; exact h j g hg
theorem Places.awake {c : Nat} {gs : Array Goroutine} (h : Places c gs) : ∀ g ∈ gs,Conc.awake g:=fun g hg=>by
  obtain ⟨i,hi,rfl⟩:=Array.mem_iff_getElem.1 hg
  rcases h i _ (Array.getElem?_eq_getElem hi) with h1 | h1 | ⟨g2,v,z,h1⟩ | ⟨g2,z,h1⟩ <;> intro t <;> rw [h1] <;> simp [parked]
theorem Places.woken {c : Nat} {gs : Array Goroutine} (h : Places c gs) {P : Program} {g g' : Goroutine} {w' : World} {s : Nat} (hc : w'.heap[c]? = some (.chan 0 #[] false s s false)) : gs.map (woken P g g' w') = gs:=by
  apply Array.ext_getElem?
  intro i
  rw [Array.getElem?_map]
  cases hi : gs[i]? with
  | none=>rfl
  | some o =>
    simp only [Option.map_some,Option.some.injEq]
    unfold Conc.woken
    split
    · unfold Goroutine.again
      rcases h i o hi with h1 | h1 | ⟨g2,v,z,rfl⟩ | ⟨g2,z,rfl⟩
      · rw [h1]
      · rw [h1]
      · simp [parked,scase,hc]
      · simp [parked,rcase,hc]
    · rfl
end Go.Gw
