/- A slice held against nil; what is copied. No condition. -/
import Derived.Test.YtglaeocolbnpdaaGreatGwLib13
import Derived.WalkSpells
namespace Go.Gw
open Go
def isnil : Value → Bool
  | .slice none _ _ => true
  | _ => false
section
variable {P : Program} {n : Nat} {ρ : Env} {w w' : World}
variable {d : Option Nat} {t T U : TypeId} {p : String} {af : Array Edge} {gu : Option (Nat × Bool)} {x y z : Operand}
theorem yl_eqlNil {α : Type} [Rep α] {e : TypeId} {L : List Value} {w2 : World} {v : Value} {xs : List α} (hu : P.underlying T = some (.slice e)) (hs : SlRd L w2 v xs) (hx : evO n ρ x = v) (hy : evO n ρ y = .slice none 0 0) :
    Yl P n ρ ⟨d, .binOp .eql T x y U, t, p, af, gu⟩ w (.bool (isnil v)) := by
  have : ∃ a m c, v = .slice a m c := by
    rcases hs with ⟨a0, h, _⟩ | ⟨b, off, cap, cur, e, fz, h1, _⟩
    · exact ⟨_, _, _, h⟩
    · exact ⟨_, _, _, h1⟩
  obtain ⟨a, m, c, rfl⟩ := this
  have h1 : (Op.equal T (.slice a m c) (.slice none 0 0)).run P w = .ok a.isNone w := by
    simp [Op.equal, Op.maxDepth, Lib.run_equalIn_slice_nil w 9999 T e a m c 0 0 hu]
  have h2 : a.isNone = isnil (.slice a m c) := by cases a <;> rfl
  rw [← h2]
  simp [Yl, execOp, hx, hy, eqGuard, binOp, h1, Result.andThen]
theorem SlRd.isnil {α : Type} [Rep α] {L : List Value} {v : Value} {xs : List α} (hs : SlRd L w v xs) (h : isnil v = true) : xs = [] := by
  rcases hs with ⟨a0, rfl, h2⟩ | ⟨b, off, cap, cur, e, fz, rfl, _⟩
  · exact h2
  · cases h
theorem nilcase {α β : Type} {xs : List α} {f : List α → Option β} {e : Option β} {r : β} (h0 : xs = []) (h : f xs = some r) (he : f [] = e) : e = some r := by subst h0; rw [← he]; exact h
end
end Go.Gw
