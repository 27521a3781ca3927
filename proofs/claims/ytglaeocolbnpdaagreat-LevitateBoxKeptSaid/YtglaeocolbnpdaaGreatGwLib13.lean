/- Shifts, bits, integers of other kinds. No condition. -/
import Derived.Test.YtglaeocolbnpdaaGreatGwLib12
import Derived.Laws.Externs
namespace Go.Gw
open Go
def shlS (k : IntKind) (a b : Int) : Option Int := if 0 ≤ b ∧ b ≤ k.bits then some (k.wrap (a * 2 ^ b.toNat)) else none
def shrS (k : IntKind) (a b : Int) : Option Int := if 0 ≤ b ∧ b ≤ k.bits then some (a.fdiv (2 ^ b.toNat)) else none
def andS (k : IntKind) (a b : Int) : Int := k.wrap (BitVec.ofInt k.bits a &&& BitVec.ofInt k.bits b).toNat
def orS (k : IntKind) (a b : Int) : Int := k.wrap (BitVec.ofInt k.bits a ||| BitVec.ofInt k.bits b).toNat
def xorS (k : IntKind) (a b : Int) : Int := k.wrap (BitVec.ofInt k.bits a ^^^ BitVec.ofInt k.bits b).toNat
section
variable {P : Program} {n : Nat} {ρ : Env} {w w' : World}
variable {d : Option Nat} {t T U : TypeId} {p : String} {af : Array Edge} {gu : Option (Nat × Bool)} {x y z : Operand}
theorem yl_shl {k yk : IntKind} {a b c : Int} (h : shlS k a b = some c) (hx : evO n ρ x = .int k a) (hy : evO n ρ y = .int yk b) : Yl P n ρ ⟨d, .binOp .shl T x y U, t, p, af, gu⟩ w (.int k c) := by
  unfold shlS at h
  split at h
  · rename_i hb
    cases h
    have h1 : ¬ b < 0 := by omega
    have h2 : min b.toNat k.bits = b.toNat := by omega
    simp [Yl, execOp, hx, hy, eqGuard, binOp, Op.shift, h1, h2]
  · cases h
theorem yl_shr {k yk : IntKind} {a b c : Int} (h : shrS k a b = some c) (hx : evO n ρ x = .int k a) (hy : evO n ρ y = .int yk b) : Yl P n ρ ⟨d, .binOp .shr T x y U, t, p, af, gu⟩ w (.int k c) := by
  unfold shrS at h
  split at h
  · rename_i hb
    cases h
    have h1 : ¬ b < 0 := by omega
    have h2 : min b.toNat k.bits = b.toNat := by omega
    simp [Yl, execOp, hx, hy, eqGuard, binOp, Op.shift, h1, h2]
  · cases h
theorem yl_and' {k : IntKind} {a b : Int} (hx : evO n ρ x = .int k a) (hy : evO n ρ y = .int k b) : Yl P n ρ ⟨d, .binOp .and T x y U, t, p, af, gu⟩ w (.int k (andS k a b)) := by
  simp [Yl, execOp, hx, hy, eqGuard, binOp, Op.intBits, andS]
def addC (a b c : Int) : Option (Int × Int) := if 0 ≤ a ∧ 0 ≤ b ∧ 0 ≤ c ∧ c ≤ 1 then some ((a + b + c) % 18446744073709551616, (a + b + c) / 18446744073709551616) else none
theorem eff_add64 {f : FuncId} {fn : Func} {xs : Array Operand} {aT : Array TypeId} {a b c : Int} {r : Int × Int} {K : Value → World → Prop} (hf : P.funcs[f]? = some fn) (hname : (fn.name == "runtime.NumGoroutine") = false) (hb : fn.body.isNone = true) (hn : Extern.findNext fn = none) (he : Extern.find fn = some add64Entry)
    (ha : (xs.map (evO n ρ)).toList = [.int .u64 a, .int .u64 b, .int .u64 c]) (h : addC a b c = some r) (hK : K (.tuple #[.int .u64 r.1, .int .u64 r.2]) w) : Eff P ⟨d, .call ⟨.value (.func f), xs, aT⟩, t, p, af, gu⟩ n ρ w K := by
  have e : xs.map (evO n ρ) = #[.int .u64 a, .int .u64 b, .int .u64 c] := by rw [← Array.toList_inj, ha]
  unfold addC at h
  split at h
  · rename_i hc
    cases h
    have h1 := run_add64 (P := P) a b c hc.1 hc.2.1 hc.2.2.1 hc.2.2.2 w
    have h2 := run_callFunc_extern hf hname hb hn he #[.int .u64 a, .int .u64 b, .int .u64 c] w
    rw [h1] at h2
    have : (execOp (evO n ρ) ⟨d, .call ⟨.value (.func f), xs, aT⟩, t, p, af, gu⟩).run P w = .ok (.value (.tuple #[.int .u64 ((a + b + c) % 18446744073709551616), .int .u64 ((a + b + c) / 18446744073709551616)])) w := by
      simp [execOp, resolve, Deferred.ofValue, invoke, e, evO, h2, Result.andThen]
    simp only [Eff, this]
    exact hK
  · cases h
end
theorem glob_atk {w : World} {a : Addr} {xs : List Int} {i el : Int} {k : IntKind} (h : At w a (xs.map (Value.int k))) (hi : idx xs i = some el) : At w (a.add (i.toNat * 1)) [.int k el] :=
  At.elem h (by rw [List.getElem?_map, (idx_some hi).2.2]; rfl)
end Go.Gw
