/- Numbers of float32 by their bits: what operations yield. No condition. -/
import Derived.Test.YtglaeocolbnpdaaGreatGwLib14
namespace Go.Gw
open Go
def fLt (a b : Nat) : Bool := FloatKind.f32.format.order a b == some .lt
def fLe (a b : Nat) : Bool := FloatKind.f32.format.order a b == some .lt || FloatKind.f32.format.order a b == some .eq
def fGt (a b : Nat) : Bool := FloatKind.f32.format.order a b == some .gt
def fGe (a b : Nat) : Bool := FloatKind.f32.format.order a b == some .gt || FloatKind.f32.format.order a b == some .eq
def fEq (a b : Nat) : Bool := FloatKind.f32.format.order a b == some .eq
def fNe (a b : Nat) : Bool := FloatKind.f32.format.order a b != some .eq
def fSub (a b : Nat) : Option Nat := FloatKind.f32.format.sub a b
def fAdd (a b : Nat) : Option Nat := FloatKind.f32.format.add a b
def fToI (a : Nat) : Option Int := match (FloatKind.f32.decode a).toInt .zero with
  | some n => if -9223372036854775808 ≤ n ∧ n ≤ 9223372036854775807 then some n else none
  | none => none
def fOfI (n : Int) : Nat := FloatKind.f32.nearest n
section
variable {P : Program} {n : Nat} {ρ : Env} {w : World}
variable {d : Option Nat} {t T U : TypeId} {p : String} {af : Array Edge} {gu : Option (Nat × Bool)} {x y z : Operand} {a b : Nat}
theorem yl_fleq (hx : evO n ρ x = .float .f32 a) (hy : evO n ρ y = .float .f32 b) : Yl P n ρ ⟨d, .binOp .leq T x y U, t, p, af, gu⟩ w (.bool (fLe a b)) := by simp [Yl, execOp, hx, hy, eqGuard, binOp, Op.floatCmp, fLe]
theorem yl_fgeq (hx : evO n ρ x = .float .f32 a) (hy : evO n ρ y = .float .f32 b) : Yl P n ρ ⟨d, .binOp .geq T x y U, t, p, af, gu⟩ w (.bool (fGe a b)) := by simp [Yl, execOp, hx, hy, eqGuard, binOp, Op.floatCmp, fGe]
theorem yl_feql (hx : evO n ρ x = .float .f32 a) (hy : evO n ρ y = .float .f32 b) : Yl P n ρ ⟨d, .binOp .eql T x y U, t, p, af, gu⟩ w (.bool (fEq a b)) := by simp [Yl, execOp, hx, hy, eqGuard, binOp, Op.floatCmp, fEq]
theorem yl_fsub {c : Nat} (h : fSub a b = some c) (hx : evO n ρ x = .float .f32 a) (hy : evO n ρ y = .float .f32 b) : Yl P n ρ ⟨d, .binOp .sub T x y U, t, p, af, gu⟩ w (.float .f32 c) := by
  unfold fSub at h; simp [Yl, execOp, hx, hy, eqGuard, binOp, Op.floatArith, h]
theorem yl_ftoi {c : Int} (h : fToI a = some c) (hu : P.underlying T = some (.float .f32)) (hv : P.underlying U = some (.int .i64)) (hx : evO n ρ x = .float .f32 a) : Yl P n ρ ⟨d, .convert T U x, t, p, af, gu⟩ w (.int .i64 c) := by
  unfold fToI at h
  split at h
  · rename_i m hm
    split at h
    · rename_i hr
      cases h
      have h1 : IntKind.i64.min ≤ c ∧ c ≤ IntKind.i64.max := hr
      have h2 : c ≤ 9223372036854775807 := hr.2
      simp [Yl, execOp, hx, convert, run_underlying hu, run_underlying hv, Conv.floatToInt, hm, h1, h2, Result.andThen]
    · cases h
  · cases h
theorem yl_itof {k : IntKind} {c : Int} (hu : P.underlying T = some (.int k)) (hv : P.underlying U = some (.float .f32)) (hx : evO n ρ x = .int k c) : Yl P n ρ ⟨d, .convert T U x, t, p, af, gu⟩ w (.float .f32 (fOfI c)) := by
  simp [Yl, execOp, hx, convert, run_underlying hu, run_underlying hv, Conv.intToFloat, Result.andThen, fOfI]
theorem yl_index1F {m e : Nat} {k : IntKind} {i : Int} {el : Nat} {xs : List Nat} (hu : P.underlying T = some (.array m e)) (hs : Scalar P e) (hz : Size P e 1) (hl : xs.length = m) (hx : evO n ρ x = .agg (xs.map (Value.float .f32)).toArray) (hy : evO n ρ y = .int k i)
    (h : idx xs i = some el) : Yl P n ρ ⟨d, .index T x y, t, p, af, gu⟩ w (.float .f32 el) := by
  obtain ⟨h0, h1, h2⟩ := idx_some h
  have hp : (part e (xs.map (Value.float .f32)).toArray (i.toNat * 1)).run P w = .ok (.float .f32 el) w := run_partS hs (by rw [Nat.mul_one, List.getElem?_map, h2]; rfl)
  have h1' : i < (m : Int) := by omega
  simp [Yl, execOp, hx, hy, Instr.index, asIntOf, run_underlying hu, h0, h1', run_sizeOf hz] at hp ⊢
  simp [hp]
end
end Go.Gw
