/- Goroutines: ranks; a channel without a buffer among many. No condition. -/
import Derived.Test.YtpgpimedmpeliaaGreatDoorGwCj2
import Derived.Conc.Beside
set_option linter.unusedVariables false
set_option linter.unusedSimpArgs false
set_option linter.unusedSectionVars false
set_option linter.unusedVariables false
namespace Go.Gw
open Go Go.Conc

/-! ### Ranks -/
inductive Tr where
  | leaf
  | mk (f:World→Tr)
def Tr.sub (x y:Tr):Prop:=∃ f w,y=.mk f∧x=f w
theorem Tr.acc (t:Tr):Acc Tr.sub t:=by
  induction t with
  | leaf=>exact ⟨_,fun y ⟨f,w,h,_⟩=>by cases h⟩
  | mk f ih=>exact ⟨_,fun y ⟨g,w,h,e⟩=>by cases h;subst e;exact ih w⟩
def nt:Nat→Tr
  | 0=>.leaf
  | n+1=>.mk fun _=>nt n
theorem ZG (n:Nat):Tr.sub (nt n) (nt (n+1)):=⟨_,default,rfl,rfl⟩
def Qcj (l' l:List Tr):Prop:=∃ i x y,l[i]?=some x∧Tr.sub y x∧l'=l.set i y
theorem Quk:∀ x:Tr,∀ l:List Tr,Acc Qcj l→Acc Qcj (x::l):=fun x=>by
  induction Tr.acc x with
  | intro x _ ihx =>
    intro l hl
    induction hl with
    | intro l hl ihl =>
      refine ⟨_,fun l' ⟨i,a,b,h1,h2,h3⟩=>?_⟩
      subst h3
      cases i with
      | zero=>cases h1;exact ihx b h2 l ⟨l,hl⟩
      | succ i=>exact ihl _ ⟨i,a,b,by simpa using h1,h2,rfl⟩
theorem Qcl:∀ l:List Tr,Acc Qcj l
  | []=>⟨_,fun l' ⟨i,a,b,h1,_⟩=>by simp at h1⟩
  | x::l=>Quk x l (Qcl l)

/-! ### At the channel -/
section
variable {P:Program} {gs:Array Goroutine} {w w':World} {sl:Option (Nat×Nat)}
variable {c s r:Nat} {z v:Value} {i:Nat} {g:Goroutine} {rest:Rest}
end
end Go.Gw
