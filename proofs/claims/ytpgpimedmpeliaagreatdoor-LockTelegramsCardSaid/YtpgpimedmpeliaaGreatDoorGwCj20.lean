/- Goroutines: a channel is made; goroutine 0's walk from there on, in pieces. No condition. -/
import Derived.Test.YtpgpimedmpeliaaGreatDoorGwCj19
set_option linter.unusedVariables false
set_option linter.unusedSimpArgs false
set_option linter.unusedSectionVars false
set_option linter.unusedVariables false
namespace Go.Gw
open Go Go.Conc
open Go.ConcN (sumTo upd sumTo_upd upd_ne upd_same)
section
variable {P:Program} {Sh:Loc→Prop} {F F':Nat→Prop} {w w':World} {gs:Array Goroutine} {W W' W2:World} {t:Trace} {q:Nat→Nat} {g g':Goroutine} {S:Goroutine→World→Prop}

theorem Qqq (w:World):Rel w { w with heap:=w.heap.push XJ }:=⟨rfl,rfl,rfl,by simp,fun b hb=>by
  show (w.heap.push XJ)[b]?=_
  rw [Array.getElem?_push,if_neg (by omega)],fun b h1 h2=>by
  show (w.heap.push XJ)[b]?=_
  simp only [Array.size_push] at h2
  rw [Array.getElem?_push,if_pos (by omega)]⟩

/-! ### Pieces -/
def Jp (P:Program) (Z:Nat→Prop):Jd P:=⟨true,Z,fun _ _ _=>False⟩
end
end Go.Gw
