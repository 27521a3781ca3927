/- Closures; calls that change what lies behind a pointer. No condition. -/
import Derived.Test.YtglaeocolbnpdaaGreatGwLib11
import Derived.Laws.ByValue
namespace Go.Gw
open Go
section
variable {P : Program} {n : Nat} {ρ : Env} {w w' : World}
variable {d : Option Nat} {t T U : TypeId} {p : String} {af : Array Edge} {gu : Option (Nat × Bool)} {x y z : Operand}
theorem yl_makeFunc {f : FuncId} {cap : Array Operand} {cs : List Value} (h : (cap.map (evO n ρ)).toList = cs) : Yl P n ρ ⟨d, .makeFunc (.func f) #[] cap, t, p, af, gu⟩ w (.func (.func f) #[] cs.toArray) := by
  have e : cap.map (evO n ρ) = cs.toArray := by rw [← h]
  simp [Yl, execOp, Instr.makeFunc, e, go_sem]
theorem eff_callC {f : FuncId} {fn : Func} {c : Code} {xs : Array Operand} {aT : Array TypeId} {cs as args : List Value} {K Φ : Value → World → Prop} (hy : evO n ρ y = .func (.func f) #[] cs.toArray) (hf : P.funcs[f]? = some fn) (hname : (fn.name == "runtime.NumGoroutine") = false) (hb : fn.body = some c)
    (ha : (xs.map (evO n ρ)).toList = as) (hargs : as ++ cs = args) (hc : CallsTo P f args w Φ) (h : ∀ v w', Φ v w' → K v w') : Eff P ⟨d, .call ⟨.value y, xs, aT⟩, t, p, af, gu⟩ n ρ w K := by
  have e : xs.map (evO n ρ) = as.toArray := by rw [← ha]
  have : (execOp (evO n ρ) ⟨d, .call ⟨.value y, xs, aT⟩, t, p, af, gu⟩).run P w = .ok (.enter f args.toArray) w := by
    subst hargs
    simp [execOp, resolve, Deferred.ofValue, invoke, e, hy, MuLone.run_callFunc_enter hf hname hb]
  simp only [Eff, this]
  exact CallsTo.mono hc h
def NewOr (H : List Value) (w : World) (b : Nat) : Prop := w.heap.size ≤ b ∨ ¬ Avoids H b
end
end Go.Gw
