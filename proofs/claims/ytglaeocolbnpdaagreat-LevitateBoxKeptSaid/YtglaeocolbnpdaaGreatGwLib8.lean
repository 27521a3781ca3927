/- Making a slice of zeros, storing a part of an element. No condition. -/
import Derived.Test.YtglaeocolbnpdaaGreatGwPlan
import Derived.Laws.OwnMore
namespace Go.Gw
open Go
section
variable {P : Program} {n : Nat} {ρ : Env} {w : World}
variable {d : Option Nat} {t T U : TypeId} {p : String} {af : Array Edge} {gu : Option (Nat × Bool)} {x y z : Operand}

theorem eff_storeOC {α : Type} [Rep α] {e : TypeId} {L : List Value} {v : Value} {xs : List α} {i : Int} {el y' : α} {off k : Nat} {u : Value} {vs : List Value} {K : Value → World → Prop} (hs : Size P T k) (hc : u.cells.toList = vs) (hk : vs.length = k) (hown : Own e L w v xs) (hv : v ∈ L) (hel : idx xs i = some el)
    (hx : evO n ρ x = .pointer (some ((elemAddr v i.toNat (Rep.n α)).add off))) (hy : evO n ρ y = u) (hl : Nat.ble (off + k) (Rep.n α) = true) (h1 : ∀ c ∈ vs, c.oneCell' = true)
    (hset : ∀ w' cs, Rep.rd L w' cs el → Rep.rd L w' (setAt cs off vs) y')
    (h : ∀ w', Chg [v] w w' → Own e L w' v (xs.set i.toNat y') → K undef w') : Eff P ⟨d, .store T x y, t, p, af, gu⟩ n ρ w K := by
  subst hc; subst hk
  have e : u.cells.toList.length = u.cells.size := by simp
  exact eff_storeO (by rw [← e]; exact hs) hown hv hel hx hy (by rw [← e]; simpa using hl) h1 hset h

def mk {α : Type} (i : Int) (zero : α) : Option (List α) := if 0 ≤ i ∧ i ≤ 1048576 then some (List.replicate i.toNat zero) else none
theorem mk_some {α : Type} {i : Int} {zero : α} {xs : List α} (h : mk i zero = some xs) : 0 ≤ i ∧ i ≤ 1048576 ∧ xs = List.replicate i.toNat zero := by
  unfold mk at h
  split at h
  · rename_i hc; exact ⟨hc.1, hc.2, by cases h; rfl⟩
  · cases h

theorem Elems.replicate {α : Type} [Rep α] {L : List Value} {c : Value} {zero : α} (h1 : Rep.n α = 1) (hz : Rep.rd L w [c] zero) : ∀ m : Nat, Elems L w (List.replicate m c) (List.replicate m zero)
  | 0 => Elems.nil
  | m + 1 => by
    rw [List.replicate_succ, List.replicate_succ]
    exact Elems.cons (cs := [c]) hz (Elems.replicate h1 hz m)

theorem madeCells_one (c : Value) (m : Nat) : (madeCells #[c] m).toList = List.replicate m c := by
  apply List.ext_getElem
  · simp [madeCells]
  · intro i h1 h2
    simp [madeCells, Nat.mod_one]

theorem eff_makeO {α : Type} [Rep α] {e : TypeId} {bytes : Nat} {c : Value} {L : List Value} {i : Int} {zero : α} {xs : List α} {k k' : IntKind} {K : Value → World → Prop} (h1 : Rep.n α = 1) (hu : P.underlying T = some (.slice e)) (hi : EInfo P e 1 bytes c) (hcc : c.cells = #[c])
    (hbm : Nat.ble bytes 65536 = true) (hz : ∀ L w, Rep.rd L w [c] zero) (hx : evO n ρ x = .int k i) (hy : evO n ρ y = .int k' i) (hm : mk i zero = some xs)
    (h : ∀ v w', Ext w w' → (∀ b, blk v = some b → w.heap.size ≤ b) → Own e (v :: L) w' v xs → K v w') : Eff P ⟨d, .makeSlice T x y, t, p, af, gu⟩ n ρ w K := by
  obtain ⟨h0, hmax, rfl⟩ := mk_some hm
  obtain ⟨ti, g1, g2, g3, g4, _, _⟩ := hi.ex
  have hbm : bytes ≤ 65536 := by simpa using hbm
  obtain ⟨m, rfl⟩ : ∃ m : Nat, i = (m : Int) := ⟨i.toNat, by omega⟩
  have hmm : m ≤ 1048576 := by omega
  have hb : ti.bytes * m ≤ 281474976710656 := by
    rw [g3]
    calc bytes * m ≤ 65536 * 1048576 := Nat.mul_le_mul hbm hmm
      _ ≤ _ := by decide
  obtain ⟨w', hr, ho, hg⟩ := run_makeSlice_full (P := P) (w := w) 0 T e ti c 1 hu g1 g4 g2 k k' m (by omega) hb (by unfold maxLen; omega) (Nat.zero_le _)
  have he : Ext w w' := ⟨hg.os, hg.tape, hg.output, hg.size, fun b hb _ => hg.block b hb (fun e => by cases e)⟩
  simp only [Eff, execOp, hx, hy, Sem.run_bind, hr, Result.andThen, Sem.run_pure]
  refine h _ w' he (fun b hb => by simp [blk] at hb; omega) ⟨(madeCells c.cells (m * 1)).toList, ?_, ?_⟩
  · rw [h1, List.length_replicate, Int.toNat_natCast]
    exact ho
  · rw [hcc, Nat.mul_one, madeCells_one, Int.toNat_natCast]
    exact Elems.replicate h1 (hz _ _) m
end
end Go.Gw
