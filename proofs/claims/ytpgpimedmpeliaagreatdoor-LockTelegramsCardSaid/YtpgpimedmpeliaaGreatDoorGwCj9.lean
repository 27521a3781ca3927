/- Goroutines: steps of many side by side. No condition. -/
import Derived.Test.YtpgpimedmpeliaaGreatDoorGwCj8
set_option linter.unusedVariables false
set_option linter.unusedSimpArgs false
set_option linter.unusedSectionVars false
set_option linter.unusedVariables false
namespace Go.Gw
open Go Go.Conc

def Z1 (vs:Nat→Option View) (i:Nat) (x:Option View) (W':World):Nat→Option View:=fun j=>if j=i then x else (vs j).map (Zt W')
theorem Zg {vs:Nat→Option View} {i:Nat} {x:Option View} {W':World}:Z1 vs i x W' i=x:=by simp [Z1]
theorem Y2 {vs:Nat→Option View} {i j:Nat} {x:Option View} {W':World} (h:j≠i):Z1 vs i x W' j=(vs j).map (Zt W'):=by simp [Z1,h]
theorem QFp {vs:Nat→Option View} {i j:Nat} {x:View} {W':World} {y:View} (hy:vs j=some y):(Z1 vs i (some x) W' j).isSome=true:=by
  by_cases h:j=i
  · subst h;simp [Zg]
  · simp [Y2 h,hy]
theorem Qkd {vs:Nat→Option View} {i j:Nat} {x:View} {W':World} (hy:(vs j).isSome=true):(Z1 vs i (some x) W' j).isSome=true:=by
  cases hv:vs j with
  | none=>rw [hv] at hy;cases hy
  | some y=>exact QFp hv

theorem g?_cases {t u:Trace} {e g:Nat} (h:(t++u).g? e=some g):(e < t.size∧t.g? e=some g)∨(t.size≤e∧∃ op∈u,op.g=g∧(t++u)[e]?=some op):=by
  unfold Trace.g? at h
  obtain ⟨op,h1,h2⟩:=Option.map_eq_some_iff.1 h
  rcases getElem?_append_cases h1 with ⟨h3,h4⟩ | ⟨h3,h4⟩
  · exact .inl ⟨h3,by simp [Trace.g?,h4,h2]⟩
  · exact .inr ⟨h3,op,h4,h2,h1⟩
theorem Jq {t u:Trace} {e:Nat} {a:Touch} (h:touchAt (t++u) e=some a):(e < t.size∧touchAt t e=some a)∨(t.size≤e∧∃ op∈u,op.act.touch?=some a∧(t++u)[e]?=some op):=by
  obtain ⟨x,hx,hxa⟩:=touch_of h
  rcases getElem?_append_cases hx with ⟨h3,h4⟩ | ⟨h3,h4⟩
  · exact .inl ⟨h3,by rw [touchAt_of h4];exact hxa⟩
  · exact .inr ⟨h3,x,h4,hxa,hx⟩
theorem lt_of_g? {t:Trace} {j g:Nat} (h:t.g? j=some g):j < t.size:=by
  unfold Trace.g? at h
  obtain ⟨z,hz,_⟩:=Option.map_eq_some_iff.1 h
  exact lt_size_of_getElem? hz

section
variable {Sh:Loc→Prop} {c n:Nat} {vs:Nat→Option View} {W W':World} {t:Trace} {i:Nat} {x:View}
end
end Go.Gw
